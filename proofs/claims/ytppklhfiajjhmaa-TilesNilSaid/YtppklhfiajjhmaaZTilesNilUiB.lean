/- What is proved: the contracts of a copied list of items and of a picture of nothing; and what the law of the layer tiles asks first, carried out. Conditions: none but those in each statement. -/
import Derived.Test.YtppklhfiajjhmaaZTilesNilUiA
import Derived.Test.YtppklhfiajjhmaaZTilesNilShelf
import Derived.Test.YtppklhfiajjhmaaZTilesNilPurePU
namespace Go.Proofs.Ytppklhfiajjhmaa.Ti
open Go Go.RowKit Go.Proofs.Ytppklhfiajjhmaa.Y Go.Proofs.Ytppklhfiajjhmaa.PPU Go.Proofs.YtppklhfiajjhmaaW.PrintWords Go.Proofs.YtppklhfiajjhmaaW.PrintLast
set_option linter.unusedVariables false
set_option linter.unusedSimpArgs false
theorem lays52 : Go.Proofs.SlLaysE0.n41 Try.prog ⟨fun | 41 => 52 | n => n, fun | 22 => 22 | 23 => 39 | 4 => 4 | n => n, fun | n => n⟩ := {
  mixed := by kernel_rfl
  f41 := ⟨Try.f52.name, by decide, Try.func52.trans (congrArg some (by kernel_rfl))⟩
  t4 := Try.underlying4
  a4 := Try.isAgg4
  z4 := Try.sizeOf4
  v4 := Try.zeroValue4
  t22 := Try.underlying22
  a22 := Try.isAgg22
  z22 := Try.sizeOf22
  v22 := Try.zeroValue22 }
theorem info39 : ∃ i z, Try.prog.info? 39 = some i ∧ i.zero = some z ∧ i.size = 15 ∧ i.bytes = 120 ∧ z.cells.size = 15 := by
  have h1 : (Try.prog.info? 39).map (fun i => (i.size, i.bytes)) = some (15, 120) := by kernel_rfl
  have h2 : zeroCells Try.prog 39 = some (List.replicate 15 (.int .i64 0)) := by kernel_rfl
  obtain ⟨i, hi, he⟩ := Option.map_eq_some_iff.1 h1
  simp only [Prod.mk.injEq] at he
  unfold zeroCells at h2
  rw [hi] at h2
  simp only [Option.bind_some] at h2
  obtain ⟨z, hz, hz2⟩ := Option.map_eq_some_iff.1 h2
  refine ⟨i, z, hi, hz, he.1, he.2, ?_⟩
  have := congrArg List.length hz2
  simpa using this
/-- A list of items, copied. -/
def cloneG (T : Nat → Option (List (List Int))) : List MV → (Nat → Option Blk) → (Blk → (Nat → MV) → Option Out) → Option Out := fun args rd k => match args with
  | [a] => match rowsOf T (i64s 15) rd a with
    | some l => bif decide (0 < l.length ∧ l.length ≤ 1000) then k ⟨.recs (i64s 15) l, 39⟩ (fun b => .va b 0 l.length 15) else none
    | none => none
  | _ => none
theorem cloneG_ok {T : Nat → Option (List (List Int))} {X : Env} (hT : ∀ B w x, X B w x → outside (i64s 15) T B w x) : NOk Try.prog X 52 (cloneG T) := by
  intro args rd k r hG
  unfold cloneG at hG
  split at hG
  · rename_i a
    split at hG
    · rename_i l hl
      cases hd : decide (0 < l.length ∧ l.length ≤ 1000) with
      | false => rw [hd] at hG; simp at hG
      | true =>
      rw [hd] at hG
      simp only [cond_true] at hG
      simp only [decide_eq_true_eq] at hd
      refine ⟨_, _, hG, rfl, fun base w0 σ us w hX hb hn hu hr => ?_⟩
      simp only [RVs] at hu
      obtain ⟨u0, r0, rfl, h0, rfl⟩ := hu
      obtain ⟨A, c, rfl, hc, hC⟩ := rowsOf_ok hl (hT _ _ _ hX) hb h0 (fun b k hb' hk => hr b k (by simp [refsL, hb']) hk)
      obtain ⟨ad, rfl, ⟨_, hsp⟩, hcell⟩ := hC hd.1
      obtain ⟨b, off, spot⟩ := ad
      simp only at hsp
      subst hsp
      obtain ⟨i, z, hi, hz, hs, hby, hzs⟩ := info39
      have hlen := rowsV_len (i64s 15) l
      refine Calls.mono (AnyE.slices_Clone lays52 i z 15 120 hi hz hs hby hzs (by omega) (fun w => run_size (by kernel_rfl) w) b off l.length c (rowsV (i64s 15) l) w (by rw [hlen]; simp [i64s]) (by simp [maxLen]; omega) (by omega) ?_ (rowsV_one _ _)) ?_
      · intro j u hj
        have hlt := (List.getElem?_eq_some_iff.1 hj).1
        rw [hlen] at hlt
        simp only [i64s, List.length_replicate] at hlt
        have hq : j / 15 < l.length := by omega
        have hrl : j % 15 < (recV (i64s 15) 0 (l.getD (j / 15) [])).length := by rw [recV_len]; simp only [i64s, List.length_replicate]; omega
        have h1 := hcell (j / 15) hq (j % 15) _ (List.getElem?_eq_getElem hrl)
        have h2 := rowsV_get hq (List.getElem?_eq_getElem hrl)
        simp only [i64s, List.length_replicate] at h1 h2
        rw [show j / 15 * 15 + j % 15 = j by omega] at h1 h2
        rw [addr_add] at h1
        simp only [i64s] at hj
        rw [hj] at h2
        simp only [Option.some.injEq] at h2
        rw [h1, h2]
      · rintro e w' ⟨v, rfl, ho, _, hB⟩
        exact ⟨v, rfl, fresh_own ho rfl rfl, hB⟩
    · cases hG
  · cases hG
theorem ints_own {w' : World} {base : Nat} {ok : Nat → Prop} {v : Value} {r : List Int} (h : Kd.R (Kd.int .i64) 2 w' base ok v r) : w'.ownsRow base 2 1 v r.length (rowsV (i64s 1) (r.map fun v => [v])) := by
  obtain ⟨_, inner, ho, hr⟩ := h
  have e : inner = rowsV (i64s 1) (r.map fun v => [v]) := by
    obtain ⟨h1, h2⟩ := hr
    apply List.ext_getElem?
    intro i
    have hlen : (rowsV (i64s 1) (r.map fun v => [v])).length = r.length := by rw [rowsV_len]; simp [i64s]
    have h1' : inner.length = r.length * 1 := h1
    by_cases hi : i < r.length
    · have h3 := h2 i r[i] (List.getElem?_eq_getElem hi)
      have h4 : (inner.drop (i * 1)).take 1 = [.int .i64 r[i]] := (Kd.int .i64).K_of_M h3
      have h5 : inner[i]? = ((inner.drop (i * 1)).take 1)[0]? := by
        rw [List.getElem?_take, if_pos (by omega), List.getElem?_drop]
        congr 1
        omega
      have h6 := rowsV_get (sh := i64s 1) (l := r.map fun v => [v]) (j := i) (i := 0) (u := .int .i64 r[i]) (by simpa using hi) (by
        have eg : (r.map fun v => [v]).getD i [] = [r[i]] := by simp [List.getD_eq_getElem?_getD, hi]
        rw [eg]; rfl)
      rw [h5, h4]
      have : i * (i64s 1).length + 0 = i := by simp [i64s]
      rw [this] at h6
      rw [h6]
      rfl
    · rw [List.getElem?_eq_none (by omega), List.getElem?_eq_none (by omega)]
  rw [← e]
  exact ho
theorem Fresh.tup {σ : Sg} {w w' : World} {blk : Blk} {vf : Nat → MV} {u : Value} (h : Fresh σ w w' blk vf u) (n : Int) : Fresh σ w w' blk (fun b => .tup [vf b, iv n]) (.tuple #[u, .int .i64 n]) := by
  have key : ∀ τ b, RV τ (vf b) u → RV τ (.tup [vf b, iv n]) (.tuple #[u, .int .i64 n]) := by
    intro τ b h
    simp only [RV, RVs]
    exact ⟨_, ⟨_, _, rfl, h, _, _, rfl, rfl, rfl⟩, rfl⟩
  rcases h with ⟨g, cs, rest, h1, h2, h3, h4⟩ | h
  · exact .inl ⟨g, cs, rest, h1, h2, h3, fun τ b e1 e2 e3 => key τ b (h4 τ b e1 e2 e3)⟩
  · exact .inr (fun τ b e1 => key τ b (h τ b e1))
/-- A picture of nothing. -/
def drawG : List MV → (Nat → Option Blk) → (Blk → (Nat → MV) → Option Out) → Option Out := fun args rd k => match args with
  | [.val (.slice none 0 0), .agg [.val (.int .i64 x), .val (.int .i64 y), .val (.int .i64 s), .val (.int .i64 wi), .val (.int .i64 hi)]] => bif decide (Pure.okG x y s wi hi) then
      k ⟨.recs (i64s 1) ((Pure.pic [] x y s wi.toNat hi.toNat).map fun v => [v]), 2⟩ (fun b => .tup [.va b 0 (Pure.pic [] x y s wi.toNat hi.toNat).length 1, iv 0]) else none
  | _ => none
theorem drawG_ok {X : Env} : NOk Try.prog X 28 drawG := by
  intro args rd k r hG
  unfold drawG at hG
  split at hG
  · rename_i x y s wi hi
    cases hd : decide (Pure.okG x y s wi hi) with
    | false => rw [hd] at hG; simp at hG
    | true =>
      rw [hd] at hG
      simp only [cond_true] at hG
      obtain ⟨K, hK⟩ := Pure.draw_ok [] x y s wi hi (by simp) (of_decide_eq_true hd)
      refine ⟨_, _, hG, rfl, fun base w0 σ us w hX hb hn hu hr => ?_⟩
      have hus := (pls_ok (σ := σ) [.val (.slice none 0 0), .agg [.val (.int .i64 x), .val (.int .i64 y), .val (.int .i64 s), .val (.int .i64 wi), .val (.int .i64 hi)]] _ rfl us).1 hu
      subst hus
      refine Calls.mono (raster_Draw.calls K none 0 [] x y s wi hi _ 0 w (Kd.C_nil _ _) (Nat.le_refl _) (hK K (Nat.le_refl K))) ?_
      rintro e' w' ⟨v, rfl, hR, hB⟩
      exact ⟨_, rfl, Fresh.tup (fresh_own (ints_own hR) (by simp) rfl) 0, hB⟩
  · cases hG
noncomputable abbrev E := EX Try.prog
theorem E_ok : EqOk Try.prog E := EX_ok Try.prog
theorem mixed : Try.prog.follows .mixedOrders = true := by kernel_rfl
noncomputable def C1 : Ctx := addR C0 51 (ownerG T0)
noncomputable def C2 : Ctx := addQ C1 53 meetG
noncomputable def C3 : Ctx := addQ C2 55 emptyG
noncomputable def C4 : Ctx := addN C3 18 (harmG T0)
noncomputable def C5 : Ctx := addN C4 52 (cloneG T0)
noncomputable def C6 : Ctx := addN C5 28 drawG
noncomputable def C7 : Ctx := addI C6 72 (inlG Try.prog E C6 3 72)
noncomputable def C8 : Ctx := addR C7 65 (toR1 (runF Try.prog E C7 3 65))
noncomputable def C9 : Ctx := addR C8 54 (toR1 (runF Try.prog E C8 3 54))
noncomputable def C10 : Ctx := addI C9 56 (inlG Try.prog E C9 5 56)
noncomputable def C11 : Ctx := addI C10 36 (inlG Try.prog E C10 5 36)
noncomputable def C12 : Ctx := addI C11 35 (inlG Try.prog E C11 3 35)
noncomputable def C13 : Ctx := addI C12 41 (inlG Try.prog E C12 3 41)
theorem C1_ok : COk Try.prog C1 := addR_ok (C0_ok _) (ownerG_ok (fun B w x _ => T0_out _ B w x)) (fnOk_of Try.func51 (by kernel_rfl) (by kernel_rfl))
theorem C2_ok : COk Try.prog C2 := addQ_ok C1_ok meetG_ok (fnOk_of Try.func53 (by kernel_rfl) (by kernel_rfl))
theorem C3_ok : COk Try.prog C3 := addQ_ok C2_ok emptyG_ok (fnOk_of Try.func55 (by kernel_rfl) (by kernel_rfl))
theorem C4_ok : COk Try.prog C4 := addN_ok C3_ok (harmG_ok (fun B w x _ => T0_out _ B w x)) (fnOk_of Try.func18 (by kernel_rfl) (by kernel_rfl))
theorem C5_ok : COk Try.prog C5 := addN_ok C4_ok (cloneG_ok (fun B w x _ => T0_out _ B w x)) (fnOk_of Try.func52 (by kernel_rfl) (by kernel_rfl))
theorem C6_ok : COk Try.prog C6 := addN_ok C5_ok drawG_ok (fnOk_of Try.func28 (by kernel_rfl) (by kernel_rfl))
theorem C7_ok : COk Try.prog C7 := addI_ok C6_ok (inl_ok E_ok C6_ok mixed _ _) (fnOk_of Try.func72 (by kernel_rfl) (by kernel_rfl))
theorem C8_ok : COk Try.prog C8 := addR_ok C7_ok (Q_run E_ok C7_ok mixed true_stable 3 _) (fnOk_of Try.func65 (by kernel_rfl) (by kernel_rfl))
theorem C9_ok : COk Try.prog C9 := addR_ok C8_ok (Q_run E_ok C8_ok mixed true_stable 3 _) (fnOk_of Try.func54 (by kernel_rfl) (by kernel_rfl))
theorem C10_ok : COk Try.prog C10 := addI_ok C9_ok (inl_ok E_ok C9_ok mixed _ _) (fnOk_of Try.func56 (by kernel_rfl) (by kernel_rfl))
theorem C11_ok : COk Try.prog C11 := addI_ok C10_ok (inl_ok E_ok C10_ok mixed _ _) (fnOk_of Try.func36 (by kernel_rfl) (by kernel_rfl))
theorem C12_ok : COk Try.prog C12 := addI_ok C11_ok (inl_ok E_ok C11_ok mixed _ _) (fnOk_of Try.func35 (by kernel_rfl) (by kernel_rfl))
theorem C13_ok : COk Try.prog C13 := addI_ok C12_ok (inl_ok E_ok C12_ok mixed _ _) (fnOk_of Try.func41 (by kernel_rfl) (by kernel_rfl))
set_option maxRecDepth 100000 in
theorem awake_x : xfun Try.prog E C13 3 33 [] [] fin = some (.val (.bool true), []) := by kernel_rfl
def awakeG : List MV → Option MV
  | [] => some (.val (.bool true))
  | _ => none
theorem awakeG_ok {X : Env} : QOk Try.prog X 33 (toQ awakeG) := Q_of_x E_ok C13_ok (fun _ _ _ => trivial) mixed (fun args v h => by
  unfold awakeG at h
  split at h
  · injection h with h; subst h
    exact ⟨⟨_, rfl⟩, ⟨_, rfl⟩, awake_x⟩
  · cases h)
end Go.Proofs.Ytppklhfiajjhmaa.Ti
