/- What is proved: texts of the law TilesDraw, joined by program. Conditions: none but those in each statement. -/
import Derived.Test.YtppklhfiajjhmaaZTilesDraw5
import Derived.WalkKit
import Derived.Below
import Derived.WalkSmall
import Derived.Handy
import Derived.Lib.Hide
import Derived.Deep.Slices
import Derived.OpenShut
import Derived.ProofKit
import Derived.SizedLaws
section
namespace Go.Proofs.Ytppklhfiajjhmaa.Ti
open Go Go.RowKit Go.Proofs.Ytppklhfiajjhmaa.Y
set_option linter.unusedVariables false
set_option linter.unusedSimpArgs false
def showOk (X Y S W H : Int) (n0 n1 nc : Nat) (cs old new : List (List Int)) : Bool :=
 decide (Pure.okG X Y S W H ∧ (nc : Int) = H * W ∧ cs.length = nc ∧ old.length = n0 ∧ new.length = n1 ∧ old.length + new.length ≤ 90)
def recs? (m : Mem) (b : Nat) : Option (List (Option IntKind) × List (List Int) × Nat) := match m[b]? with
 | some (some k) => match k.rec? with
  | some (sh, l) => some (sh, l, k.ty)
  | none => none
 | _ => none
theorem recs_ok {m : Mem} {b : Nat} {sh : List (Option IntKind)} {l : List (List Int)} {ty : Nat} (h : recs? m b = some (sh, l, ty)) : ∃ k : Blk, m[b]? = some (some k) ∧ k.ty = ty ∧ k.cells = l.flatMap (recC sh 0) := by
 unfold recs? at h
 split at h
 ·rename_i k hk
  split at h
  ·rename_i sh' l' hr
   simp only [Option.some.injEq, Prod.mk.injEq] at h
   obtain ⟨rfl, rfl, rfl⟩ := h
   exact ⟨k, hk, rfl, Blk.rec_cells hr⟩
  ·cases h
 ·cases h
def showG : List MV → Mem → KM → Option Out := fun args m k => match args with
 | [.ptr b 0, .va e 0 n1 15] => match m[b]? with
  | some (some ⟨.lst [.val (.int .i64 X), .val (.int .i64 Y), .val (.int .i64 S), .val (.int .i64 W), .val (.int .i64 H), .va d 0 n0 15, .va c 0 nc 1], 90⟩) => match recs? m d with
   | some (sh0, old, 39) => match m[c]? with
    | some (some ⟨.recs sh1 cs, 2⟩) => match recs? m e with
     | some (sh2, new, 39) => bif decide (sh0 = i64s 15) && decide (sh1 = i64s 1) && decide (sh2 = i64s 15) && decide ([b, c, d, e].Nodup) then
       bif showOk X Y S W H n0 n1 nc cs old new then
        k (.tup [iv (showR X Y S W H new (harmL old new) (cs, 0)).2, iv 0])
         ((m.set b (some ⟨.lst [iv X, iv Y, iv S, iv W, iv H, .va (m.length + 1) 0 n1 15, .va c 0 nc 1], 90⟩)).set c (some ⟨.recs (i64s 1) (showR X Y S W H new (harmL old new) (cs, 0)).1, 2⟩) ++
          [some ⟨.recs (i64s 4) (harmL old new), 37⟩, some ⟨.recs (i64s 15) new, 39⟩])
       else none
      else none
     | _ => none
    | _ => none
   | _ => none
  | _ => none
 | _ => none
theorem wk_of_recs {k : Blk} {sh : List (Option IntKind)} {l : List (List Int)} (h : k.cells = l.flatMap (recC sh 0)) (r : Nat → Nat) : k.cells.map wk = renL r (l.flatMap (recC sh 0)) := by
 rw [h, wk_recs, renL_recs]
theorem showG_ok : IOk Try.prog A9.env 36 showG := by
 intro args m k r hG base w0 σ us w hX hu hM
 unfold showG at hG
 split at hG
 case h_2 => cases hG
 rename_i b e n1
 split at hG
 case h_2 => cases hG
 rename_i X Y S W H d n0 c nc hb
 split at hG
 case h_2 => cases hG
 rename_i sh0 old hd0
 split at hG
 case h_2 => cases hG
 rename_i sh1 cs hc
 split at hG
 case h_2 => cases hG
 rename_i sh2 new he0
 cases h1 : (decide (sh0 = i64s 15) && decide (sh1 = i64s 1) && decide (sh2 = i64s 15) && decide ([b, c, d, e].Nodup)) with
 | false => rw [h1] at hG; cases hG
 | true =>
 rw [h1] at hG
 cases h2 : showOk X Y S W H n0 n1 nc cs old new with
 | false => rw [h2] at hG; cases hG
 | true =>
 rw [h2] at hG
 simp only [cond_true] at hG
 simp only [Bool.and_eq_true, decide_eq_true_eq] at h1
 obtain ⟨⟨⟨rfl, rfl⟩, rfl⟩, hnd⟩ := h1
 unfold showOk at h2
 simp only [decide_eq_true_eq] at h2
 obtain ⟨q1, q2, q3, q4, q5, q6⟩ := h2
 obtain ⟨kd, hd, hdt, hdc⟩ := recs_ok hd0
 obtain ⟨ke, he, het, hec⟩ := recs_ok he0
 -- the numbers
 have hW0 : W = (W.toNat : Int) := by obtain ⟨g, _⟩ := q1; omega
 have hH0 : H = (H.toNat : Int) := by obtain ⟨_, g, _⟩ := q1; omega
 have hncN : nc = H.toNat * W.toNat := by
  have : (nc : Int) = ((H.toNat * W.toNat : Nat) : Int) := by rw [q2, hW0, hH0]; push_cast; simp
  exact_mod_cast this
 have hncp : 0 < nc := by
  rw [hncN]
  obtain ⟨g1, g2, _⟩ := q1
  exact Nat.mul_pos (by omega) (by omega)
 have hG1 : Pure.okG X Y S (W.toNat : Int) (H.toNat : Int) := by rw [← hW0, ← hH0]; exact q1
 have hhl : (harmL old new).length ≤ 1000000 := by
  have := Pure.harm_len (old.map dec39) (new.map dec39) (by rw [List.length_map, List.length_map]; exact q6)
  unfold harmL
  rw [List.length_map]
  omega
 have hx := show_x X Y S W H nc cs old new n0 n1 q4 q5 q6 q3 hhl (fun r hr cs' hcs' hem => by
  have := paint_okq hG1 (n := n1) (nc := nc) (cs := cs') (it := new) (q := r) q5 (by omega) hncN hcs'
  rw [← hW0, ← hH0] at this
  exact this hem)
 have hl := showR_len X Y S W H new (harmL old new) (cs, 0)
 obtain ⟨cells', hcells'⟩ : ∃ x, x = (showR X Y S W H new (harmL old new) (cs, 0)).1 := ⟨_, rfl⟩
 obtain ⟨num, hnum⟩ : ∃ x, x = (showR X Y S W H new (harmL old new) (cs, 0)).2 := ⟨_, rfl⟩
 rw [← hcells', ← hnum] at hx hG
 rw [← hcells'] at hl
 have hu' := hu
 simp only [RVs] at hu'
 obtain ⟨u0, r0, rfl, hp, u1, r1, rfl, hr, rfl⟩ := hu'
 obtain ⟨g, hg, rfl⟩ := hp.ptr_inv
 obtain ⟨pre, cells, rest, b1, b2, b3, b4, b5⟩ := hM.blk b _ g hb hg
 have hcells : ∀ (i : Nat) x, [MV.val (.int .i64 X), .val (.int .i64 Y), .val (.int .i64 S), .val (.int .i64 W), .val (.int .i64 H), .va d 0 n0 15, .va c 0 nc 1][i]? = some x → ∃ u, RV σ x u := by
  intro i x hi
  obtain ⟨u, _, hu⟩ := RVs.get i b2 hi
  exact ⟨u, hu⟩
 have hdm : 0 < n0 → ∃ g, σ d = some g := by
  intro hn
  obtain ⟨u, h⟩ := hcells 5 _ rfl
  simp only [RV] at h
  obtain ⟨A, cc, _, _, h3⟩ := h
  obtain ⟨g, h4, _⟩ := h3 hn
  exact ⟨g, h4⟩
 have hem : 0 < n1 → ∃ g, σ e = some g := by
  intro hn
  have h := hr
  simp only [RV] at h
  obtain ⟨A, cc, _, _, h3⟩ := h
  obtain ⟨g, h4, _⟩ := h3 hn
  exact ⟨g, h4⟩
 have hcm : ∃ g, σ c = some g := by
  obtain ⟨u, h⟩ := hcells 6 _ rfl
  simp only [RV] at h
  obtain ⟨A, cc, _, _, h3⟩ := h
  obtain ⟨g, h4, _⟩ := h3 hncp
  exact ⟨g, h4⟩
 have hz : XFz Try.prog A9.env (fun i => (i == 2 && n0 == 0) || (i == 3 && n1 == 0)) 36 [.ptr 0 0, .va 3 0 n1 15] (MS0 X Y S W H nc cs old new n0) (.tup [iv num, iv 0]) (ML X Y S W H n1 nc new (harmL old new) old new cells') := by
  refine XF.z hx rfl ?_
  exact ML_inb X Y S W H n1 nc cells' new (harmL old new) old new _ rfl rfl
 have hfr := frameZ (rs := [b, c, d, e]) true_stable hz (base := base) (w0 := w0) (σ := σ) (w := w) (m := m) (args := [.ptr b 0, .va e 0 n1 15]) hnd ?_ (fun h => h) ?_ ?_ ?_ hX hu hM ?_
 ·refine Calls.mono hfr ?_
  rintro e' w' ⟨v, m', σ', u, ⟨rfl, rfl⟩, h3, h4, h5, h6⟩
  refine ⟨_, _, σ', u, ?_, h3, h4, h5, h6⟩
  rw [← hG]
  rfl
 ·intro i k0 hk
  match i, hk with
  | 0, _ => simp
  | 1, _ => simp
  | 2, _ => simp
  | 3, _ => simp
  | i + 4, hk => simp [MS0, MS] at hk
 ·intro i b' hb'
  match i, hb' with
  | 0, hb' =>
   have e' : b = b' := by simpa using hb'
   subst e'
   exact ⟨_, _, hb, rfl, rfl, rfl, fun _ => ⟨rfl, by simp⟩⟩
  | 1, hb' =>
   have e' : c = b' := by simpa using hb'
   subst e'
   refine ⟨_, _, hc, rfl, rfl, ?_, fun _ => ⟨rfl, ?_⟩⟩
   ·show (cs.flatMap (recC (i64s 1) 0)).map wk = renL _ (cs.flatMap (recC (i64s 1) 0))
    rw [wk_recs, renL_recs]
   ·show cs.flatMap (recC (i64s 1) 0) ≠ []
    intro e'
    have := recs_len (i64s 1) cs
    rw [e'] at this
    simp [i64s] at this
    omega
  | 2, hb' =>
   have e' : d = b' := by simpa using hb'
   subst e'
   exact ⟨kd, _, hd, rfl, hdt, wk_of_recs hdc _, fun h => by cases h⟩
  | 3, hb' =>
   have e' : e = b' := by simpa using hb'
   subst e'
   exact ⟨ke, _, he, rfl, het, wk_of_recs hec _, fun h => by cases h⟩
  | i + 4, hb' => simp at hb'
 ·intro i k0 hk
  match i, hk with
  | 0, hk =>
   have e' : k0 = ⟨.lst [iv X, iv Y, iv S, iv W, iv H, .va 2 0 n0 15, .va 1 0 nc 1], 90⟩ := by injection hk with hk; injection hk with hk; exact hk.symm
   subst e'
   exact ⟨_, rfl, rfl, rfl, rfl⟩
  | 1, hk =>
   have e' : k0 = ⟨.recs (i64s 1) cs, 2⟩ := by injection hk with hk; injection hk with hk; exact hk.symm
   subst e'
   refine ⟨_, rfl, rfl, rfl, ?_⟩
   show (cells'.flatMap (recC (i64s 1) 0)).length = (cs.flatMap (recC (i64s 1) 0)).length
   rw [recs_len, recs_len, hl]
  | 2, hk => exact ⟨k0, hk, rfl, rfl, rfl⟩
  | 3, hk => exact ⟨k0, hk, rfl, rfl, rfl⟩
  | i + 4, hk => simp [MS0, MS] at hk
 ·intro i k1 hi hk
  match i, hi, hk with
  | 4, _, hk =>
   have e' : k1 = ⟨.recs (i64s 4) (harmL old new), 37⟩ := by injection hk with hk; injection hk with hk; exact hk.symm
   subst e'; rfl
  | 5, _, hk =>
   have e' : k1 = ⟨.recs (i64s 15) new, 39⟩ := by injection hk with hk; injection hk with hk; exact hk.symm
   subst e'; rfl
  | i + 6, _, hk => simp [ML, MS] at hk
 ·intro i b' hb'
  match i, hb' with
  | 0, hb' =>
   have e' : b = b' := by simpa using hb'
   subst e'
   exact .inr ⟨g, hg⟩
  | 1, hb' =>
   have e' : c = b' := by simpa using hb'
   subst e'
   exact .inr hcm
  | 2, hb' =>
   have e' : d = b' := by simpa using hb'
   subst e'
   rcases Nat.eq_zero_or_pos n0 with h | h
   ·exact .inl (by rw [h]; rfl)
   ·exact .inr (hdm h)
  | 3, hb' =>
   have e' : e = b' := by simpa using hb'
   subst e'
   rcases Nat.eq_zero_or_pos n1 with h | h
   ·exact .inl (by rw [h]; rfl)
   ·exact .inr (hem h)
  | i + 4, hb' => simp at hb'
end Go.Proofs.Ytppklhfiajjhmaa.Ti
end
section
namespace Go.Proofs.Ytppklhfiajjhmaa.Y
open Go Go.RowKit
set_option linter.unusedVariables false
set_option linter.unusedSimpArgs false
def Sees (rs : List Nat) (σ τ : Sg) : Prop := τ.x = σ.x ∧ ∀ i b, rs[i]? = some b → τ i = σ b ∧ τ.κ i = σ.κ b ∧ τ.off i = σ.off b
def seen (rs : List Nat) (σ : Sg) : Sg := ⟨fun i => (rs[i]?).bind σ.f, fun i => σ.κ (rs.getD i 0), σ.x, fun i => σ.off (rs.getD i 0)⟩
theorem seen_sees (rs : List Nat) (σ : Sg) : Sees rs σ (seen rs σ) := by
 refine ⟨rfl, fun i b h => ?_⟩
 have e : rs.getD i 0 = b := by rw [List.getD_eq_getElem?_getD, h]; rfl
 refine ⟨?_, ?_, ?_⟩
 ·show (rs[i]?).bind σ.f = _; rw [h]; rfl
 ·show σ.κ (rs.getD i 0) = _; rw [e]
 ·show σ.off (rs.getD i 0) = _; rw [e]
theorem seen_mem {base : Bs} {w0 w : World} {σ : Sg} {rs : List Nat} {m0 : Mem} (hlen : m0.length = rs.length)
  (hblk : ∀ (i : Nat) (k0 : Blk), m0[i]? = some (some k0) → k0.ro = true ∧ ∃ (b : Nat) (kb : Blk), rs[i]? = some b ∧ Reads1 σ w b kb ∧ kb.ty = k0.ty ∧ ∀ τ us, Sees rs σ τ → RVs σ kb.cells us → RVs τ k0.cells us)
  (hall : ∀ (i b : Nat), rs[i]? = some b → ∃ k0 : Blk, m0[i]? = some (some k0)) : RM ⟨w.heap.size, fun _ => False⟩ w (seen rs σ) m0 w := by
 have inv : ∀ i g, seen rs σ i = some g → ∃ b, rs[i]? = some b ∧ σ b = some g := by
  intro i g h
  have h' : (rs[i]?).bind σ.f = some g := h
  obtain ⟨b, h1, h2⟩ := Option.bind_eq_some_iff.1 h'
  exact ⟨b, h1, h2⟩
 have look : ∀ (i : Nat) (k0 : Blk) (g : Nat), m0[i]? = some (some k0) → seen rs σ i = some g → ∃ pre cs rest, AtH w g k0 (pre ++ (cs ++ rest)) ∧ RVs (seen rs σ) k0.cells cs ∧ (cs ++ rest).length = (seen rs σ).κ i ∧ pre.length = (seen rs σ).off i := by
  intro i k0 g hk hg
  obtain ⟨hro, b, kb, e1, e3, e4, e5⟩ := hblk i k0 hk
  obtain ⟨b', f1, f2⟩ := inv i g hg
  rw [e1] at f1
  injection f1 with f1; subst f1
  obtain ⟨pre, cs, rest, d1, d2, d3, d4, _⟩ := e3 g f2
  obtain ⟨s1, s2, s3⟩ := (seen_sees rs σ).2 i b e1
  exact ⟨pre, cs, rest, d1.as (fun h => by rw [hro] at h; cases h), e5 _ _ (seen_sees rs σ) d2, by rw [s2]; exact d3, by rw [s3]; exact d4⟩
 refine ⟨fun i k0 g hk hg => ?_, fun i j g ki kj hi hj r1 r2 n1 n2 h1 h2 => ?_, fun i g hg => ?_, fun i g k0 hk hg hr => ?_, fun i g k0 hk hg hr _ => ?_, Bel.refl _ _, Nat.le_refl _⟩
 ·obtain ⟨pre, cs, rest, d1, d2, d3, d4⟩ := look i k0 g hk hg
  exact ⟨pre, cs, rest, d1, d2, d3, d4, fun h => by rw [(hblk i k0 hk).1] at h; cases h⟩
 ·rw [(hblk i ki hi).1] at r1; cases r1
 ·obtain ⟨b, h1, _⟩ := inv i g hg
  exact hall i b h1
 ·rw [(hblk i k0 hk).1] at hr; cases hr
 ·obtain ⟨pre, cs, rest, d1, _⟩ := look i k0 g hk hg
  have hlt : g < w.heap.size := d1.lt
  rintro (hh | hh)
  ·exact absurd hlt (Nat.not_lt.2 hh)
  ·exact hh
theorem N_va {P : Program} {X : Env} (hS : Stable X) {f : Nat} {args0 : List MV} {m0 : Mem} {sh : List (Option IntKind)} {l : List (List Int)} {ty n : Nat} {rs : List Nat}
  (hf : XF P X f args0 m0 (fun v m' => v = .va m0.length 0 n sh.length ∧ m' = m0 ++ [some ⟨.recs sh l, ty⟩])) {base : Bs} {w0 w : World} {σ : Sg} {us : List Value}
  (hX : X base w0 σ.x) (hb : Bel base w0 w) (hn : base.n ≤ w.heap.size) (hlen : m0.length = rs.length) (hargs : ∀ τ, Sees rs σ τ → RVs τ args0 us)
  (hblk : ∀ (i : Nat) (k0 : Blk), m0[i]? = some (some k0) → k0.ro = true ∧ ∃ (b : Nat) (kb : Blk), rs[i]? = some b ∧ Reads1 σ w b kb ∧ kb.ty = k0.ty ∧ ∀ τ us, Sees rs σ τ → RVs σ kb.cells us → RVs τ k0.cells us)
  (hall : ∀ (i b : Nat), rs[i]? = some b → ∃ k0 : Blk, m0[i]? = some (some k0)) :
  Calls P f us.toArray w fun e w' => ∃ u, e = .returned u ∧ Fresh σ w w' ⟨.recs sh l, ty⟩ (fun b => .va b 0 n sh.length) u ∧ Below w.heap.size w w' := by
 have hM := seen_mem (base := base) (w0 := w0) hlen hblk hall
 have hX' : X ⟨w.heap.size, fun _ => False⟩ w (seen rs σ).x := hS base w0 _ w σ.x hX hb (by rintro y (hh | hh); exact .inl (Nat.le_trans hn hh); exact hh.elim) rfl
 refine Calls.mono (hf _ w (seen rs σ) us w hX' (hargs _ (seen_sees rs σ)) hM) ?_
 rintro e w' ⟨v1, m1, σ1, u1, ⟨rfl, rfl⟩, rfl, _, h3, h4⟩
 refine ⟨u1, rfl, ?_, h4.bel.to⟩
 obtain ⟨A, c, rfl, hc, hA⟩ := h3.va_inv
 have hq : (m0 ++ [some ⟨.recs sh l, ty⟩] : Mem)[m0.length]? = some (some ⟨.recs sh l, ty⟩) := by rw [List.getElem?_append_right (Nat.le_refl _), Nat.sub_self]; rfl
 cases hg : σ1 m0.length with
 | none =>
  right
  intro τ b _
  simp only [RV]
  refine ⟨A, c, rfl, hc, fun hpos => ?_⟩
  obtain ⟨g, hg', _⟩ := hA hpos
  rw [hg] at hg'; cases hg'
 | some g =>
  left
  obtain ⟨pre, cs, rest, d1, d2, d3, d4, d5⟩ := h4.blk _ _ g hq hg
  have hp := d5 rfl
  subst hp
  have hlo := h4.lo _ g _ hq hg rfl
  have hge : w.heap.size ≤ g := by
   rcases hlo with h | h
   ·exact h
   ·exact h.elim
  have hcs := rows_inv d2
  subst hcs
  refine ⟨g, _, rest, hge, by simpa using d1.own rfl, rows_RVs σ sh l, fun τ b _ hτ _ ho => ?_⟩
  simp only [RV]
  refine ⟨A, c, rfl, hc, fun hpos => ?_⟩
  obtain ⟨g', hg', hA'⟩ := hA hpos
  rw [hg] at hg'
  injection hg' with hg'; subst hg'
  refine ⟨g, hτ, ?_⟩
  rw [hA', ho]
  simp at d4
  rw [← d4]
end Go.Proofs.Ytppklhfiajjhmaa.Y
end
section
namespace Go.Proofs.Ytppklhfiajjhmaa.Ti
open Go Go.RowKit Go.Proofs.Ytppklhfiajjhmaa.Y Go.Proofs.Ytppklhfiajjhmaa.PPT Go.Proofs.YtppklhfiajjhmaaW.PrintWords Go.Proofs.YtppklhfiajjhmaaW.PrintLast
set_option linter.unusedVariables false
set_option linter.unusedSimpArgs false
theorem RM.weak {base : Bs} {w0 w : World} {σ : Sg} {m m2 : Mem} (h : RM base w0 σ m w)
  (h1 : ∀ (i : Nat) (k2 : Blk), m2[i]? = some (some k2) → σ i = none ∨ ∃ k : Blk, m[i]? = some (some k) ∧ k2.ty = k.ty ∧ k2.ro = k.ro ∧ (k2.cells = [] ↔ k.cells = []) ∧ ∀ us, RVs σ k.cells us → RVs σ k2.cells us)
  (h2 : ∀ (i : Nat) (k : Blk), m[i]? = some (some k) → ∃ k2 : Blk, m2[i]? = some (some k2)) : RM base w0 σ m2 w := by
 refine ⟨fun b k g hk hg => ?_, fun b c g k l hb hc r1 r2 n1 n2 g1 g2 => ?_, fun b g hg => ?_, fun b g k hk hg hr => ?_, fun b g k hk hg hr hn => ?_, h.bel, h.base⟩
 ·rcases h1 b k hk with hz | ⟨k0, e1, e2, e3, e4, e5⟩
  ·rw [hg] at hz; cases hz
  ·obtain ⟨pre, cs, rest, d1, d2, d3, d4, d5⟩ := h.blk b k0 g e1 hg
   exact ⟨pre, cs, rest, d1.as (fun hh => ⟨by rw [← e3]; exact hh, e2⟩), e5 _ d2, d3, d4, fun hh => d5 (by rw [← e3]; exact hh)⟩
 ·rcases h1 b k hb with hz | ⟨k0, e1, e2, e3, e4, e5⟩
  ·rw [g1] at hz; cases hz
  ·rcases h1 c l hc with hz | ⟨l0, f1, f2, f3, f4, f5⟩
   ·rw [g2] at hz; cases hz
   ·exact h.inj b c g k0 l0 e1 f1 (by rw [← e3]; exact r1) (by rw [← f3]; exact r2) (fun hh => n1 (e4.2 hh)) (fun hh => n2 (f4.2 hh)) g1 g2
 ·obtain ⟨k, hk⟩ := h.dom b g hg
  exact h2 b k hk
 ·rcases h1 b k hk with hz | ⟨k0, e1, e2, e3, e4, e5⟩
  ·rw [hg] at hz; cases hz
  ·exact h.lo b g k0 e1 hg (by rw [← e3]; exact hr)
 ·rcases h1 b k hk with hz | ⟨k0, e1, e2, e3, e4, e5⟩
  ·rw [hg] at hz; cases hz
  ·exact h.hi b g k0 e1 hg (by rw [← e3]; exact hr) (fun hh => hn (e4.2 hh))
def showH : List MV → Mem → KM → Option Out := fun args m k => match args with
 | [.ptr b 0, e] => match m[b]? with
  | some (some ⟨.lst [.val (.int .i64 X), .val (.int .i64 Y), .val (.int .i64 S), .val (.int .i64 W), .val (.int .i64 H), .val (.slice none 0 0), .va c 0 nc 1], 90⟩) =>
   showG [.ptr b 0, e] (m.set b (some ⟨.lst [iv X, iv Y, iv S, iv W, iv H, .va m.length 0 0 15, .va c 0 nc 1], 90⟩) ++ [some ⟨.recs (i64s 15) [], 39⟩]) k
  | _ => showG [.ptr b 0, e] m k
 | _ => none
theorem showH_ok : IOk Try.prog A9.env 36 showH := by
 intro args m k r hG base w0 σ us w hX hu hM
 unfold showH at hG
 split at hG
 case h_2 => cases hG
 rename_i b e
 split at hG
 case h_2 => exact showG_ok _ m k r hG base w0 σ us w hX hu hM
 rename_i X Y S W H c nc hb
 refine showG_ok _ _ k r hG base w0 σ us w hX hu (RM.weak hM ?_ ?_)
 ·intro i k2 hk
  rcases Nat.lt_or_ge i m.length with hi | hi
  ·rw [List.getElem?_append_left (by simpa using hi)] at hk
   by_cases e' : i = b
   ·subst e'
    right
    rw [List.getElem?_set_self hi] at hk
    simp only [Option.some.injEq] at hk
    subst hk
    refine ⟨_, hb, rfl, rfl, by simp, fun us h => ?_⟩
    simp only [Blk.cells_lst, RVs] at h ⊢
    obtain ⟨u1, r1, rfl, a1, u2, r2, rfl, a2, u3, r3, rfl, a3, u4, r4, rfl, a4, u5, r5, rfl, a5, u6, r6, rfl, a6, h7⟩ := h
    refine ⟨u1, _, rfl, a1, u2, _, rfl, a2, u3, _, rfl, a3, u4, _, rfl, a4, u5, _, rfl, a5, u6, _, rfl, ?_, h7⟩
    have e2 := a6.val_inv
    subst e2
    simp only [RV]
    exact ⟨none, 0, rfl, Nat.le_refl _, fun h => absurd h (by simp)⟩
   ·right
    rw [List.getElem?_set_ne (Ne.symm e')] at hk
    exact ⟨k2, hk, rfl, rfl, Iff.rfl, fun _ h => h⟩
  ·left
   cases hs : σ i with
   | none => rfl
   | some g =>
    obtain ⟨k0, hk0⟩ := hM.dom i g hs
    have := (List.getElem?_eq_some_iff.1 hk0).1
    omega
 ·intro i k0 hk0
  have hi := (List.getElem?_eq_some_iff.1 hk0).1
  rw [List.getElem?_append_left (by simpa using hi)]
  by_cases e' : i = b
  ·subst e'
   rw [List.getElem?_set_self hi]
   exact ⟨_, rfl⟩
  ·rw [List.getElem?_set_ne (Ne.symm e')]
   exact ⟨_, hk0⟩
def rightP : List MV → Option MV
 | [.agg [.val (.int .i64 X), .val (.int .i64 Y), .val (.int .i64 S), .val (.int .i64 W), .val (.int .i64 H)]] => some (.val (.bool (decide (Pure.okG X Y S W H))))
 | _ => none
theorem rightP_ok {X : Env} : QOk Try.prog X 27 (toQ rightP) := by
 refine Q_of (fun args v h => ?_)
 unfold rightP at h
 split at h
 ·rename_i X Y S W H
  injection h with h; subst h
  exact ⟨_, _, rfl, rfl, fun w => decoupageref28_Right.calls X Y S W H _ w (Pure.rright_eq X Y S W H)⟩
 ·cases h
def rdrawN : List MV → (Nat → Option Blk) → (Blk → (Nat → MV) → Option Out) → Option Out := fun args rd k => match args with
 | [a, .agg [.val (.int .i64 X), .val (.int .i64 Y), .val (.int .i64 S), .val (.int .i64 W), .val (.int .i64 H)]] => match rowsC T0 (i64s 15) rd a with
  | (c, some l) => bif c then bif decide (l.length ≤ 1000 ∧ Pure.okG X Y S W H) then k ⟨.recs (i64s 1) (picL l X Y S W.toNat H.toNat), 2⟩ (fun b => .va b 0 (picL l X Y S W.toNat H.toNat).length 1) else none else none
  | (_, none) => none
 | _ => none
theorem rdrawN_ok {X : Env} : NOk Try.prog X 29 rdrawN := by
 intro args rd k r hG
 unfold rdrawN at hG
 split at hG
 case h_2 => cases hG
 rename_i a X Y S W H
 split at hG
 case h_2 => cases hG
 rename_i c l hl0
 cases c with
 | false => simp at hG
 | true =>
 simp only [cond_true] at hG
 cases hd : decide (l.length ≤ 1000 ∧ Pure.okG X Y S W H) with
 | false => rw [hd] at hG; simp at hG
 | true =>
 rw [hd] at hG
 simp only [cond_true] at hG
 simp only [decide_eq_true_eq] at hd
 have hl := rowsC_ok hl0
 obtain ⟨K, hK⟩ := Pure.rdraw_ok (l.map dec39) X Y S W H (by rw [List.length_map]; exact hd.1) hd.2
 refine ⟨_, _, hG, rfl, fun base w0 σ us w hX hb hn hu hr => ?_⟩
 simp only [RVs] at hu
 obtain ⟨u0, r0, rfl, h0, u1, r1, rfl, h1, rfl⟩ := hu
 obtain ⟨A, cc, rfl, hc, hC⟩ := items_C (rowsOf_ok hl (T0_out _ base w0 σ.x) hb h0 (fun b k hb' hk => hr b k (reach_l (by simp [refsL, hb'])) hk)) hd.1
 have hus := (pls_ok (σ := σ) [.agg [.val (.int .i64 X), .val (.int .i64 Y), .val (.int .i64 S), .val (.int .i64 W), .val (.int .i64 H)]] _ rfl [u1]).1 (by simp only [RVs]; exact ⟨u1, [], rfl, h1, rfl⟩)
 simp only [List.cons.injEq, and_true] at hus
 subst hus
 refine Calls.mono (decoupageref28_Draw.calls K A cc (l.map dec39) X Y S W H _ w hC hc (hK K (Nat.le_refl K))) ?_
 rintro e w' ⟨v, rfl, hR, hB⟩
 exact ⟨_, rfl, fresh_own (l := picL l X Y S W.toNat H.toNat) (by unfold picL; rw [List.length_map]; exact ints_own hR) rfl rfl, hB⟩
theorem ints_C {w : World} {u : Value} {l : List (List Int)} {ok : Nat → Prop} (h : SliceAt w u (i64s 1) l ok) (hl : l.length ≤ 1000000) :
  ∃ A c, u = .slice A (l.map fun r => r.getD 0 0).length c ∧ (l.map fun r => r.getD 0 0).length ≤ c ∧ Kd.C (Kd.int .i64) w A (l.map fun r => r.getD 0 0).length (l.map fun r => r.getD 0 0) := by
 obtain ⟨A, c, h1, h2, h3⟩ := h
 refine ⟨A, c, by rw [h1, List.length_map], by rw [List.length_map]; exact h2, rfl, by rw [List.length_map]; omega, fun hn => ?_⟩
 rw [List.length_map] at hn
 obtain ⟨ad, e1, _, e3⟩ := h3 hn
 refine ⟨ad, e1, fun j p hj => ?_⟩
 rw [List.getElem?_map] at hj
 obtain ⟨r, hr, rfl⟩ := Option.map_eq_some_iff.1 hj
 have hjl : j < l.length := (List.getElem?_eq_some_iff.1 hr).1
 have hg : l.getD j [] = r := by rw [List.getD_eq_getElem?_getD, hr]; rfl
 refine ⟨recV (i64s 1) 0 r, rfl, rfl, fun i v hv => ?_⟩
 exact e3 j hjl i v (by rw [hg]; exact hv)
theorem same_l (l : List Int) (hl : l.length ≤ 1000000) : ∀ (r1 r2 d : List Int) (k : Nat), r1.length < k → r1.length = r2.length → (d ++ r1).length ≤ 1000000 →
  decoupagelaw34_same.l0 k (d ++ r1) (d ++ r2) ((d ++ r1).length : Int) (d.length : Int) = some (decide (r1 = r2))
 | [], r2, d, k, hk, he, hb => by
  obtain ⟨k, rfl⟩ : ∃ m, k = m + 1 := ⟨k - 1, by omega⟩
  have : r2 = [] := List.length_eq_zero_iff.1 he.symm
  subst this
  simp only [decoupagelaw34_same.l0]
  rw [if_neg (by simp)]
  rfl
 | x :: r1, [], d, k, hk, he, hb => by simp at he
 | x :: r1, y :: r2, d, k, hk, he, hb => by
  obtain ⟨k, rfl⟩ : ∃ m, k = m + 1 := ⟨k - 1, by omega⟩
  simp only [List.length_cons] at hk he
  simp only [List.length_append, List.length_cons] at hb
  have e1 : rd (d ++ x :: r1) (d.length : Int) = x := by unfold rd; simp
  have e2 : rd (d ++ y :: r2) (d.length : Int) = y := by unfold rd; simp
  simp only [decoupagelaw34_same.l0]
  rw [if_pos (by simp; omega), if_pos (by omega), if_pos (by simp; omega), if_pos (by simp; omega), e1, e2]
  have e3 : wrap64 ((d.length : Int) + 1) = ((d ++ [x]).length : Int) := by rw [Pure.w64 (by omega) (by omega)]; simp
  by_cases hxy : x = y
  ·subst hxy
   rw [if_pos rfl, e3]
   have := same_l l hl r1 r2 (d ++ [x]) k (by omega) (by omega) (by simp; omega)
   simp only [List.append_assoc, List.singleton_append] at this
   rw [this]
   simp
  ·rw [if_neg hxy]
   simp [hxy]
theorem same_eq (a b : List Int) (ha : a.length ≤ 1000000) (k : Nat) (hk : a.length < k) : decoupagelaw34_same.f k a b = some (decide (a = b)) := by
 unfold decoupagelaw34_same.f
 by_cases h : a.length = b.length
 ·rw [if_pos (by omega)]
  have := same_l a ha a b [] k hk h (by simpa using ha)
  simpa using this
 ·rw [if_neg (by omega), decide_eq_false (fun e => h (by rw [e]))]
def sameB (l m : List (List Int)) : Bool := decide ((l.map fun r => r.getD 0 0) = m.map fun r => r.getD 0 0)
def sameG : List MV → (Nat → Option Blk) → KV → Option Out := fun args rd k => match args with
 | [a, b] => match rowsC T0 (i64s 1) rd a with
  | (c, some l) => match rowsC T0 (i64s 1) rd b with
   | (d, some m) => bif c then bif d then bif decide (l.length ≤ 1000000 ∧ m.length ≤ 1000000) then k (.val (.bool (sameB l m))) else none else none else none
   | (_, none) => none
  | (_, none) => none
 | _ => none
theorem sameG_ok {X : Env} : QOk Try.prog X 37 sameG := by
 intro args rd k r hG
 unfold sameG at hG
 split at hG
 case h_2 => cases hG
 rename_i a b
 split at hG
 case h_2 => cases hG
 rename_i c l hl0
 split at hG
 case h_2 => cases hG
 rename_i d m hm0
 cases c with
 | false => simp at hG
 | true =>
 cases d with
 | false => simp at hG
 | true =>
 simp only [cond_true] at hG
 cases hd : decide (l.length ≤ 1000000 ∧ m.length ≤ 1000000) with
 | false => rw [hd] at hG; simp at hG
 | true =>
 rw [hd] at hG
 simp only [cond_true] at hG
 simp only [decide_eq_true_eq] at hd
 have hl := rowsC_ok hl0
 have hm := rowsC_ok hm0
 refine ⟨_, hG, fun base w0 σ us w hX hb hn hu hr => ?_⟩
 simp only [RVs] at hu
 obtain ⟨u0, r0, rfl, h0, u1, r1, rfl, h1, rfl⟩ := hu
 obtain ⟨A, cc, rfl, hc, hC⟩ := ints_C (rowsOf_ok hl (T0_out _ base w0 σ.x) hb h0 (fun b k hb' hk => hr b k (reach_l (by simp [refsL, hb'])) hk)) hd.1
 obtain ⟨A1, c1, rfl, hc1, hC1⟩ := ints_C (rowsOf_ok hm (T0_out _ base w0 σ.x) hb h1 (fun b k hb' hk => hr b k (reach_l (by simp [refsL, hb'])) hk)) hd.2
 have hse := same_eq (l.map fun r => r.getD 0 0) (m.map fun r => r.getD 0 0) (by rw [List.length_map]; exact hd.1) (l.length + 1) (by rw [List.length_map]; omega)
 have hcl := decoupagelaw34_same.calls (l.length + 1) A cc (l.map fun r => r.getD 0 0) A1 c1 (m.map fun r => r.getD 0 0) (sameB l m) w hC hc hC1 hc1 hse
 refine Calls.mono hcl ?_
 rintro e w' ⟨rfl, hB⟩
 exact ⟨_, rfl, by simp only [RV], hB.below⟩
noncomputable def B0 : Ctx := addN C0 57 (cloneR 2 1)
theorem B0_ok : COk Try.prog B0 := addN_ok (C0_ok _) clone57_ok (fnOk_of Try.func57 (by kernel_rfl) (by kernel_rfl))
set_option maxRecDepth 100000 in
theorem cellsNf (X Y S W H : Int) (nc : Nat) (cs : List (List Int)) (c0 : KM) : xfun Try.prog E B0 3 38 [.ptr 0 0] [some ⟨.rlst [iv X, iv Y, iv S, iv W, iv H, .any, .va 1 0 nc 1], 90⟩, some ⟨.rrecs (i64s 1) cs, 2⟩] c0 =
  bif List.length cs == nc then bif decide (List.length cs ≤ 1000000) then c0 (MV.va 2 0 (List.length cs) 1) [some { row := Row.rlst [MV.val (Value.int IntKind.i64 X), MV.val (Value.int IntKind.i64 Y), MV.val (Value.int IntKind.i64 S), MV.val (Value.int IntKind.i64 W), MV.val (Value.int IntKind.i64 H), MV.any, MV.va 1 0 nc 1], ty := 90 }, some { row := Row.rrecs [some IntKind.i64] cs, ty := 2 }, some { row := Row.recs [some IntKind.i64] cs, ty := 2 }] else none else none := by kernel_rfl
def cellsN : List MV → (Nat → Option Blk) → (Blk → (Nat → MV) → Option Out) → Option Out := fun args rd k => match args with
 | [.ptr b 0] => match rd b with
  | some ⟨.lst [.val (.int .i64 X), .val (.int .i64 Y), .val (.int .i64 S), .val (.int .i64 W), .val (.int .i64 H), L, .va c 0 nc 1], 90⟩ => match rd c with
   | some ⟨.recs sh cs, 2⟩ => bif decide (sh = i64s 1) && MV.atom L then bif decide (cs.length = nc ∧ cs.length ≤ 1000000) then k ⟨.recs (i64s 1) cs, 2⟩ (fun b => .va b 0 cs.length 1) else none else none
   | _ => none
  | _ => none
 | _ => none
theorem cellsN_ok : NOk Try.prog B0.env 38 cellsN := by
 intro args rd k r hG
 unfold cellsN at hG
 split at hG
 case h_2 => cases hG
 rename_i b
 split at hG
 case h_2 => cases hG
 rename_i X Y S W H L c nc hb
 split at hG
 case h_2 => cases hG
 rename_i sh cs hc
 cases h1 : (decide (sh = i64s 1) && MV.atom L) with
 | false => rw [h1] at hG; simp at hG
 | true =>
 rw [h1] at hG
 cases h2 : decide (cs.length = nc ∧ cs.length ≤ 1000000) with
 | false => rw [h2] at hG; simp at hG
 | true =>
 rw [h2] at hG
 simp only [cond_true] at hG
 simp only [Bool.and_eq_true, decide_eq_true_eq] at h1 h2
 obtain ⟨rfl, hL⟩ := h1
 obtain ⟨rfl, hbig⟩ := h2
 refine ⟨_, _, hG, rfl, fun base w0 σ us w hX hbel hn hu hr => ?_⟩
 have hx : XF Try.prog B0.env 38 [.ptr 0 0] [some ⟨.rlst [iv X, iv Y, iv S, iv W, iv H, .any, .va 1 0 cs.length 1], 90⟩, some ⟨.rrecs (i64s 1) cs, 2⟩]
   (fun v m' => v = .va 2 0 cs.length (i64s 1).length ∧ m' = [some ⟨.rlst [iv X, iv Y, iv S, iv W, iv H, .any, .va 1 0 cs.length 1], 90⟩, some ⟨.rrecs (i64s 1) cs, 2⟩] ++ [some ⟨.recs (i64s 1) cs, 2⟩]) := by
  apply XF.of_x E_ok B0_ok mixed (n := 3)
  ·intro k
   rw [cellsNf]
   have c1 : (cs.length == cs.length) = true := by simp
   have c2 : decide (cs.length ≤ 1000000) = true := decide_eq_true hbig
   simp only [c1, c2, cond_true]
   rfl
  ·exact ⟨rfl, rfl⟩
 refine N_va (rs := [b, c]) true_stable hx hX hbel hn rfl ?_ ?_ ?_
 ·rintro τ ⟨hτ, hs⟩
  obtain ⟨s1, s2, s3⟩ := hs 0 b rfl
  simp only [RVs, RV] at hu ⊢
  obtain ⟨u0, r0, rfl, ⟨g, hg, rfl⟩, rfl⟩ := hu
  exact ⟨_, _, rfl, ⟨g, by rw [s1]; exact hg, by rw [s3]⟩, rfl⟩
 ·intro i k0 hk
  match i, hk with
  | 0, hk =>
   simp only [List.getElem?_cons_zero, Option.some.injEq] at hk
   subst hk
   refine ⟨rfl, b, _, rfl, hr b _ (reach_l (by simp [refsL, refs])) hb, rfl, ?_⟩
   rintro τ us' ⟨hτ, hs⟩ h
   obtain ⟨s1, s2, s3⟩ := hs 1 c rfl
   simp only [Blk.cells, RVs] at h ⊢
   obtain ⟨u1, r1, rfl, a1, u2, r2, rfl, a2, u3, r3, rfl, a3, u4, r4, rfl, a4, u5, r5, rfl, a5, u6, r6, rfl, a6, u7, r7, rfl, a7, rfl⟩ := h
   refine ⟨u1, _, rfl, a1, u2, _, rfl, a2, u3, _, rfl, a3, u4, _, rfl, a4, u5, _, rfl, a5, u6, _, rfl, ?_, u7, _, rfl, ?_, rfl⟩
   ·simp only [RV]; exact RV.atom a6 hL
   ·simp only [RV] at a7 ⊢
    obtain ⟨A, cc, e1, e2, e3⟩ := a7
    refine ⟨A, cc, e1, e2, fun hp => ?_⟩
    obtain ⟨g, e4, e5⟩ := e3 hp
    exact ⟨g, by rw [s1]; exact e4, by rw [s3]; exact e5⟩
  | 1, hk =>
   simp only [List.getElem?_cons_succ, List.getElem?_cons_zero, Option.some.injEq] at hk
   subst hk
   refine ⟨rfl, c, _, rfl, hr c _ (reach_r (a := b) (by simp [refsL, refs]) hb (by simp [refsB, refsL, refs])) hc, rfl, ?_⟩
   rintro τ us' ⟨hτ, hs⟩ h
   have := rows_inv h
   subst this
   exact rows_RVs τ _ _
  | i + 2, hk => simp at hk
 ·intro i b' hb'
  match i, hb' with
  | 0, _ => exact ⟨_, rfl⟩
  | 1, _ => exact ⟨_, rfl⟩
  | i + 2, hb' => simp at hb'
end Go.Proofs.Ytppklhfiajjhmaa.Ti
end
section
namespace Go.Proofs.Ytppklhfiajjhmaa.Ti
open Go Go.RowKit Go.Proofs.Ytppklhfiajjhmaa.Y
set_option linter.unusedVariables false
set_option linter.unusedSimpArgs false
noncomputable def F1 : Ctx := addI C0 36 showH
theorem F1_ok : COk Try.prog F1 := addI_ok (C0_ok _) showH_ok (fnOk_of Try.func36 (by kernel_rfl) (by kernel_rfl))
noncomputable def F2 : Ctx := addN F1 28 drawG
theorem F2_ok : COk Try.prog F2 := addN_ok F1_ok drawG_ok (fnOk_of Try.func28 (by kernel_rfl) (by kernel_rfl))
noncomputable def F3 : Ctx := addI F2 35 (inlG Try.prog E F2 3 35)
theorem F3_ok : COk Try.prog F3 := addI_ok F2_ok (inl_ok E_ok F2_ok mixed _ _) (fnOk_of Try.func35 (by kernel_rfl) (by kernel_rfl))
noncomputable def F4 : Ctx := addN F3 38 cellsN
theorem F4_ok : COk Try.prog F4 := addN_ok F3_ok cellsN_ok (fnOk_of Try.func38 (by kernel_rfl) (by kernel_rfl))
noncomputable def F5 : Ctx := addR F4 37 sameG
theorem F5_ok : COk Try.prog F5 := addR_ok F4_ok sameG_ok (fnOk_of Try.func37 (by kernel_rfl) (by kernel_rfl))
noncomputable def F6 : Ctx := addQ F5 27 rightP
theorem F6_ok : COk Try.prog F6 := addQ_ok F5_ok rightP_ok (fnOk_of Try.func27 (by kernel_rfl) (by kernel_rfl))
noncomputable def F7 : Ctx := addN F6 29 rdrawN
theorem F7_ok : COk Try.prog F7 := addN_ok F6_ok rdrawN_ok (fnOk_of Try.func29 (by kernel_rfl) (by kernel_rfl))
noncomputable def F8 : Ctx := addI F7 34 (inlG Try.prog E F7 7 34)
theorem F8_ok : COk Try.prog F8 := addI_ok F7_ok (inl_ok E_ok F7_ok mixed _ _) (fnOk_of Try.func34 (by kernel_rfl) (by kernel_rfl))
noncomputable def F9 : Ctx := addQ F8 33 awakeG
theorem F9_ok : COk Try.prog F9 := addQ_ok F8_ok awakeG_ok (fnOk_of Try.func33 (by kernel_rfl) (by kernel_rfl))
end Go.Proofs.Ytppklhfiajjhmaa.Ti
end
section
namespace Go.Proofs.Ytppklhfiajjhmaa.Ti
open Go Go.RowKit Go.Proofs.Ytppklhfiajjhmaa.Y
set_option linter.unusedVariables false
set_option linter.unusedSimpArgs false
set_option maxRecDepth 100000 in
theorem drawNf0 (X Y S W H : Int) : xfun Try.prog E F9 8 10 [.agg [iv X, iv Y, iv S, iv W, iv H], .es] [] fin =
  bif !decide (Pure.okG X Y S W H) then some (MV.val (Value.bool true), []) else bif decide (IntKind.wrap IntKind.i64 (W * H) > 200) then some (MV.val (Value.bool true), []) else bif decide (Pure.okG X Y S W H) then bif decide (List.length (List.map (fun v => [v]) (Pure.pic [] X Y S (Int.toNat W) (Int.toNat H))) = List.length (Pure.pic [] X Y S (Int.toNat W) (Int.toNat H)) ∧ List.length (List.map (fun v => [v]) (Pure.pic [] X Y S (Int.toNat W) (Int.toNat H))) ≤ 1000000) then bif decide (List.length ([] : List (List Int)) ≤ 1000 ∧ Pure.okG X Y S W H) then bif List.length (List.map (fun v => [v]) (Pure.pic [] X Y S (Int.toNat W) (Int.toNat H))) == List.length (List.map (fun v => [v]) (Pure.pic [] X Y S (Int.toNat W) (Int.toNat H))) then bif List.length (picL [] X Y S (Int.toNat W) (Int.toNat H)) == List.length (picL [] X Y S (Int.toNat W) (Int.toNat H)) then bif decide (List.length (List.map (fun v => [v]) (Pure.pic [] X Y S (Int.toNat W) (Int.toNat H))) ≤ 1000000 ∧ List.length (picL [] X Y S (Int.toNat W) (Int.toNat H)) ≤ 1000000) then some (MV.val (Value.bool (sameB (List.map (fun v => [v]) (Pure.pic [] X Y S (Int.toNat W) (Int.toNat H))) (picL [] X Y S (Int.toNat W) (Int.toNat H)))), []) else none else none else none else none else none else none := by kernel_rfl
set_option maxRecDepth 100000 in
theorem drawNf1 (X Y S W H : Int) (c : Nat) (n1 : Nat) (t1 : List (List Int)) : xfun Try.prog E F9 8 10 [.agg [iv X, iv Y, iv S, iv W, iv H], .sl 0 0 1 c] [some ⟨.rlst [.va 1 0 n1 15], 22⟩, some ⟨.rrecs (i64s 15) t1, 39⟩] fin =
  bif decide ((↑n1 : Int) > 5) then some (MV.val (Value.bool true), []) else bif !decide (Pure.okG X Y S W H) then some (MV.val (Value.bool true), []) else bif decide (IntKind.wrap IntKind.i64 (W * H) > 200) then some (MV.val (Value.bool true), []) else bif decide (Pure.okG X Y S W H) then bif showOk X Y S W H 0 n1 (List.length (Pure.pic [] X Y S (Int.toNat W) (Int.toNat H))) (List.map (fun v => [v]) (Pure.pic [] X Y S (Int.toNat W) (Int.toNat H))) [] t1 then bif decide (List.length (Prod.fst (showR X Y S W H t1 (harmL [] t1) (List.map (fun v => [v]) (Pure.pic [] X Y S (Int.toNat W) (Int.toNat H)), 0))) = List.length (Pure.pic [] X Y S (Int.toNat W) (Int.toNat H)) ∧ List.length (Prod.fst (showR X Y S W H t1 (harmL [] t1) (List.map (fun v => [v]) (Pure.pic [] X Y S (Int.toNat W) (Int.toNat H)), 0))) ≤ 1000000) then bif List.length t1 == n1 then bif decide (List.length t1 ≤ 1000 ∧ Pure.okG X Y S W H) then bif List.length (Prod.fst (showR X Y S W H t1 (harmL [] t1) (List.map (fun v => [v]) (Pure.pic [] X Y S (Int.toNat W) (Int.toNat H)), 0))) == List.length (Prod.fst (showR X Y S W H t1 (harmL [] t1) (List.map (fun v => [v]) (Pure.pic [] X Y S (Int.toNat W) (Int.toNat H)), 0))) then bif List.length (picL t1 X Y S (Int.toNat W) (Int.toNat H)) == List.length (picL t1 X Y S (Int.toNat W) (Int.toNat H)) then bif decide (List.length (Prod.fst (showR X Y S W H t1 (harmL [] t1) (List.map (fun v => [v]) (Pure.pic [] X Y S (Int.toNat W) (Int.toNat H)), 0))) ≤ 1000000 ∧ List.length (picL t1 X Y S (Int.toNat W) (Int.toNat H)) ≤ 1000000) then some (MV.val (Value.bool (sameB (Prod.fst (showR X Y S W H t1 (harmL [] t1) (List.map (fun v => [v]) (Pure.pic [] X Y S (Int.toNat W) (Int.toNat H)), 0))) (picL t1 X Y S (Int.toNat W) (Int.toNat H)))), []) else none else none else none else none else none else none else none else none := by kernel_rfl
set_option maxRecDepth 100000 in
theorem drawNf2 (X Y S W H : Int) (c : Nat) (n1 n2 : Nat) (t1 t2 : List (List Int)) : xfun Try.prog E F9 8 10 [.agg [iv X, iv Y, iv S, iv W, iv H], .sl 0 0 2 c] [some ⟨.rlst [.va 1 0 n1 15, .va 2 0 n2 15], 22⟩, some ⟨.rrecs (i64s 15) t1, 39⟩, some ⟨.rrecs (i64s 15) t2, 39⟩] fin =
  bif decide ((↑n1 : Int) > 5) then some (MV.val (Value.bool true), []) else bif decide ((↑n2 : Int) > 5) then some (MV.val (Value.bool true), []) else bif !decide (Pure.okG X Y S W H) then some (MV.val (Value.bool true), []) else bif decide (IntKind.wrap IntKind.i64 (W * H) > 200) then some (MV.val (Value.bool true), []) else bif decide (Pure.okG X Y S W H) then bif showOk X Y S W H 0 n1 (List.length (Pure.pic [] X Y S (Int.toNat W) (Int.toNat H))) (List.map (fun v => [v]) (Pure.pic [] X Y S (Int.toNat W) (Int.toNat H))) [] t1 then bif showOk X Y S W H n1 n2 (List.length (Pure.pic [] X Y S (Int.toNat W) (Int.toNat H))) (Prod.fst (showR X Y S W H t1 (harmL [] t1) (List.map (fun v => [v]) (Pure.pic [] X Y S (Int.toNat W) (Int.toNat H)), 0))) t1 t2 then bif decide (List.length (Prod.fst (showR X Y S W H t2 (harmL t1 t2) (Prod.fst (showR X Y S W H t1 (harmL [] t1) (List.map (fun v => [v]) (Pure.pic [] X Y S (Int.toNat W) (Int.toNat H)), 0)), 0))) = List.length (Pure.pic [] X Y S (Int.toNat W) (Int.toNat H)) ∧ List.length (Prod.fst (showR X Y S W H t2 (harmL t1 t2) (Prod.fst (showR X Y S W H t1 (harmL [] t1) (List.map (fun v => [v]) (Pure.pic [] X Y S (Int.toNat W) (Int.toNat H)), 0)), 0))) ≤ 1000000) then bif List.length t2 == n2 then bif decide (List.length t2 ≤ 1000 ∧ Pure.okG X Y S W H) then bif List.length (Prod.fst (showR X Y S W H t2 (harmL t1 t2) (Prod.fst (showR X Y S W H t1 (harmL [] t1) (List.map (fun v => [v]) (Pure.pic [] X Y S (Int.toNat W) (Int.toNat H)), 0)), 0))) == List.length (Prod.fst (showR X Y S W H t2 (harmL t1 t2) (Prod.fst (showR X Y S W H t1 (harmL [] t1) (List.map (fun v => [v]) (Pure.pic [] X Y S (Int.toNat W) (Int.toNat H)), 0)), 0))) then bif List.length (picL t2 X Y S (Int.toNat W) (Int.toNat H)) == List.length (picL t2 X Y S (Int.toNat W) (Int.toNat H)) then bif decide (List.length (Prod.fst (showR X Y S W H t2 (harmL t1 t2) (Prod.fst (showR X Y S W H t1 (harmL [] t1) (List.map (fun v => [v]) (Pure.pic [] X Y S (Int.toNat W) (Int.toNat H)), 0)), 0))) ≤ 1000000 ∧ List.length (picL t2 X Y S (Int.toNat W) (Int.toNat H)) ≤ 1000000) then some (MV.val (Value.bool (sameB (Prod.fst (showR X Y S W H t2 (harmL t1 t2) (Prod.fst (showR X Y S W H t1 (harmL [] t1) (List.map (fun v => [v]) (Pure.pic [] X Y S (Int.toNat W) (Int.toNat H)), 0)), 0))) (picL t2 X Y S (Int.toNat W) (Int.toNat H)))), []) else none else none else none else none else none else none else none else none else none := by kernel_rfl
set_option maxRecDepth 100000 in
theorem drawNf3 (X Y S W H : Int) (c : Nat) (n1 n2 n3 : Nat) (t1 t2 t3 : List (List Int)) : xfun Try.prog E F9 8 10 [.agg [iv X, iv Y, iv S, iv W, iv H], .sl 0 0 3 c] [some ⟨.rlst [.va 1 0 n1 15, .va 2 0 n2 15, .va 3 0 n3 15], 22⟩, some ⟨.rrecs (i64s 15) t1, 39⟩, some ⟨.rrecs (i64s 15) t2, 39⟩, some ⟨.rrecs (i64s 15) t3, 39⟩] fin =
  bif decide ((↑n1 : Int) > 5) then some (MV.val (Value.bool true), []) else bif decide ((↑n2 : Int) > 5) then some (MV.val (Value.bool true), []) else bif decide ((↑n3 : Int) > 5) then some (MV.val (Value.bool true), []) else bif !decide (Pure.okG X Y S W H) then some (MV.val (Value.bool true), []) else bif decide (IntKind.wrap IntKind.i64 (W * H) > 200) then some (MV.val (Value.bool true), []) else bif decide (Pure.okG X Y S W H) then bif showOk X Y S W H 0 n1 (List.length (Pure.pic [] X Y S (Int.toNat W) (Int.toNat H))) (List.map (fun v => [v]) (Pure.pic [] X Y S (Int.toNat W) (Int.toNat H))) [] t1 then bif showOk X Y S W H n1 n2 (List.length (Pure.pic [] X Y S (Int.toNat W) (Int.toNat H))) (Prod.fst (showR X Y S W H t1 (harmL [] t1) (List.map (fun v => [v]) (Pure.pic [] X Y S (Int.toNat W) (Int.toNat H)), 0))) t1 t2 then bif showOk X Y S W H n2 n3 (List.length (Pure.pic [] X Y S (Int.toNat W) (Int.toNat H))) (Prod.fst (showR X Y S W H t2 (harmL t1 t2) (Prod.fst (showR X Y S W H t1 (harmL [] t1) (List.map (fun v => [v]) (Pure.pic [] X Y S (Int.toNat W) (Int.toNat H)), 0)), 0))) t2 t3 then bif decide (List.length (Prod.fst (showR X Y S W H t3 (harmL t2 t3) (Prod.fst (showR X Y S W H t2 (harmL t1 t2) (Prod.fst (showR X Y S W H t1 (harmL [] t1) (List.map (fun v => [v]) (Pure.pic [] X Y S (Int.toNat W) (Int.toNat H)), 0)), 0)), 0))) = List.length (Pure.pic [] X Y S (Int.toNat W) (Int.toNat H)) ∧ List.length (Prod.fst (showR X Y S W H t3 (harmL t2 t3) (Prod.fst (showR X Y S W H t2 (harmL t1 t2) (Prod.fst (showR X Y S W H t1 (harmL [] t1) (List.map (fun v => [v]) (Pure.pic [] X Y S (Int.toNat W) (Int.toNat H)), 0)), 0)), 0))) ≤ 1000000) then bif List.length t3 == n3 then bif decide (List.length t3 ≤ 1000 ∧ Pure.okG X Y S W H) then bif List.length (Prod.fst (showR X Y S W H t3 (harmL t2 t3) (Prod.fst (showR X Y S W H t2 (harmL t1 t2) (Prod.fst (showR X Y S W H t1 (harmL [] t1) (List.map (fun v => [v]) (Pure.pic [] X Y S (Int.toNat W) (Int.toNat H)), 0)), 0)), 0))) == List.length (Prod.fst (showR X Y S W H t3 (harmL t2 t3) (Prod.fst (showR X Y S W H t2 (harmL t1 t2) (Prod.fst (showR X Y S W H t1 (harmL [] t1) (List.map (fun v => [v]) (Pure.pic [] X Y S (Int.toNat W) (Int.toNat H)), 0)), 0)), 0))) then bif List.length (picL t3 X Y S (Int.toNat W) (Int.toNat H)) == List.length (picL t3 X Y S (Int.toNat W) (Int.toNat H)) then bif decide (List.length (Prod.fst (showR X Y S W H t3 (harmL t2 t3) (Prod.fst (showR X Y S W H t2 (harmL t1 t2) (Prod.fst (showR X Y S W H t1 (harmL [] t1) (List.map (fun v => [v]) (Pure.pic [] X Y S (Int.toNat W) (Int.toNat H)), 0)), 0)), 0))) ≤ 1000000 ∧ List.length (picL t3 X Y S (Int.toNat W) (Int.toNat H)) ≤ 1000000) then some (MV.val (Value.bool (sameB (Prod.fst (showR X Y S W H t3 (harmL t2 t3) (Prod.fst (showR X Y S W H t2 (harmL t1 t2) (Prod.fst (showR X Y S W H t1 (harmL [] t1) (List.map (fun v => [v]) (Pure.pic [] X Y S (Int.toNat W) (Int.toNat H)), 0)), 0)), 0))) (picL t3 X Y S (Int.toNat W) (Int.toNat H)))), []) else none else none else none else none else none else none else none else none else none else none := by kernel_rfl
set_option maxRecDepth 100000 in
theorem drawNf4 (X Y S W H : Int) (c : Nat) (n1 n2 n3 n4 : Nat) (t1 t2 t3 t4 : List (List Int)) : xfun Try.prog E F9 8 10 [.agg [iv X, iv Y, iv S, iv W, iv H], .sl 0 0 4 c] [some ⟨.rlst [.va 1 0 n1 15, .va 2 0 n2 15, .va 3 0 n3 15, .va 4 0 n4 15], 22⟩, some ⟨.rrecs (i64s 15) t1, 39⟩, some ⟨.rrecs (i64s 15) t2, 39⟩, some ⟨.rrecs (i64s 15) t3, 39⟩, some ⟨.rrecs (i64s 15) t4, 39⟩] fin =
  bif decide ((↑n1 : Int) > 5) then some (MV.val (Value.bool true), []) else bif decide ((↑n2 : Int) > 5) then some (MV.val (Value.bool true), []) else bif decide ((↑n3 : Int) > 5) then some (MV.val (Value.bool true), []) else bif decide ((↑n4 : Int) > 5) then some (MV.val (Value.bool true), []) else bif !decide (Pure.okG X Y S W H) then some (MV.val (Value.bool true), []) else bif decide (IntKind.wrap IntKind.i64 (W * H) > 200) then some (MV.val (Value.bool true), []) else bif decide (Pure.okG X Y S W H) then bif showOk X Y S W H 0 n1 (List.length (Pure.pic [] X Y S (Int.toNat W) (Int.toNat H))) (List.map (fun v => [v]) (Pure.pic [] X Y S (Int.toNat W) (Int.toNat H))) [] t1 then bif showOk X Y S W H n1 n2 (List.length (Pure.pic [] X Y S (Int.toNat W) (Int.toNat H))) (Prod.fst (showR X Y S W H t1 (harmL [] t1) (List.map (fun v => [v]) (Pure.pic [] X Y S (Int.toNat W) (Int.toNat H)), 0))) t1 t2 then bif showOk X Y S W H n2 n3 (List.length (Pure.pic [] X Y S (Int.toNat W) (Int.toNat H))) (Prod.fst (showR X Y S W H t2 (harmL t1 t2) (Prod.fst (showR X Y S W H t1 (harmL [] t1) (List.map (fun v => [v]) (Pure.pic [] X Y S (Int.toNat W) (Int.toNat H)), 0)), 0))) t2 t3 then bif showOk X Y S W H n3 n4 (List.length (Pure.pic [] X Y S (Int.toNat W) (Int.toNat H))) (Prod.fst (showR X Y S W H t3 (harmL t2 t3) (Prod.fst (showR X Y S W H t2 (harmL t1 t2) (Prod.fst (showR X Y S W H t1 (harmL [] t1) (List.map (fun v => [v]) (Pure.pic [] X Y S (Int.toNat W) (Int.toNat H)), 0)), 0)), 0))) t3 t4 then bif decide (List.length (Prod.fst (showR X Y S W H t4 (harmL t3 t4) (Prod.fst (showR X Y S W H t3 (harmL t2 t3) (Prod.fst (showR X Y S W H t2 (harmL t1 t2) (Prod.fst (showR X Y S W H t1 (harmL [] t1) (List.map (fun v => [v]) (Pure.pic [] X Y S (Int.toNat W) (Int.toNat H)), 0)), 0)), 0)), 0))) = List.length (Pure.pic [] X Y S (Int.toNat W) (Int.toNat H)) ∧ List.length (Prod.fst (showR X Y S W H t4 (harmL t3 t4) (Prod.fst (showR X Y S W H t3 (harmL t2 t3) (Prod.fst (showR X Y S W H t2 (harmL t1 t2) (Prod.fst (showR X Y S W H t1 (harmL [] t1) (List.map (fun v => [v]) (Pure.pic [] X Y S (Int.toNat W) (Int.toNat H)), 0)), 0)), 0)), 0))) ≤ 1000000) then bif List.length t4 == n4 then bif decide (List.length t4 ≤ 1000 ∧ Pure.okG X Y S W H) then bif List.length (Prod.fst (showR X Y S W H t4 (harmL t3 t4) (Prod.fst (showR X Y S W H t3 (harmL t2 t3) (Prod.fst (showR X Y S W H t2 (harmL t1 t2) (Prod.fst (showR X Y S W H t1 (harmL [] t1) (List.map (fun v => [v]) (Pure.pic [] X Y S (Int.toNat W) (Int.toNat H)), 0)), 0)), 0)), 0))) == List.length (Prod.fst (showR X Y S W H t4 (harmL t3 t4) (Prod.fst (showR X Y S W H t3 (harmL t2 t3) (Prod.fst (showR X Y S W H t2 (harmL t1 t2) (Prod.fst (showR X Y S W H t1 (harmL [] t1) (List.map (fun v => [v]) (Pure.pic [] X Y S (Int.toNat W) (Int.toNat H)), 0)), 0)), 0)), 0))) then bif List.length (picL t4 X Y S (Int.toNat W) (Int.toNat H)) == List.length (picL t4 X Y S (Int.toNat W) (Int.toNat H)) then bif decide (List.length (Prod.fst (showR X Y S W H t4 (harmL t3 t4) (Prod.fst (showR X Y S W H t3 (harmL t2 t3) (Prod.fst (showR X Y S W H t2 (harmL t1 t2) (Prod.fst (showR X Y S W H t1 (harmL [] t1) (List.map (fun v => [v]) (Pure.pic [] X Y S (Int.toNat W) (Int.toNat H)), 0)), 0)), 0)), 0))) ≤ 1000000 ∧ List.length (picL t4 X Y S (Int.toNat W) (Int.toNat H)) ≤ 1000000) then some (MV.val (Value.bool (sameB (Prod.fst (showR X Y S W H t4 (harmL t3 t4) (Prod.fst (showR X Y S W H t3 (harmL t2 t3) (Prod.fst (showR X Y S W H t2 (harmL t1 t2) (Prod.fst (showR X Y S W H t1 (harmL [] t1) (List.map (fun v => [v]) (Pure.pic [] X Y S (Int.toNat W) (Int.toNat H)), 0)), 0)), 0)), 0))) (picL t4 X Y S (Int.toNat W) (Int.toNat H)))), []) else none else none else none else none else none else none else none else none else none else none else none := by kernel_rfl
set_option maxRecDepth 100000 in
theorem drawNf5 (X Y S W H : Int) (c : Nat) (n1 n2 n3 n4 n5 : Nat) (t1 t2 t3 t4 t5 : List (List Int)) : xfun Try.prog E F9 8 10 [.agg [iv X, iv Y, iv S, iv W, iv H], .sl 0 0 5 c] [some ⟨.rlst [.va 1 0 n1 15, .va 2 0 n2 15, .va 3 0 n3 15, .va 4 0 n4 15, .va 5 0 n5 15], 22⟩, some ⟨.rrecs (i64s 15) t1, 39⟩, some ⟨.rrecs (i64s 15) t2, 39⟩, some ⟨.rrecs (i64s 15) t3, 39⟩, some ⟨.rrecs (i64s 15) t4, 39⟩, some ⟨.rrecs (i64s 15) t5, 39⟩] fin =
  bif decide ((↑n1 : Int) > 5) then some (MV.val (Value.bool true), []) else bif decide ((↑n2 : Int) > 5) then some (MV.val (Value.bool true), []) else bif decide ((↑n3 : Int) > 5) then some (MV.val (Value.bool true), []) else bif decide ((↑n4 : Int) > 5) then some (MV.val (Value.bool true), []) else bif decide ((↑n5 : Int) > 5) then some (MV.val (Value.bool true), []) else bif !decide (Pure.okG X Y S W H) then some (MV.val (Value.bool true), []) else bif decide (IntKind.wrap IntKind.i64 (W * H) > 200) then some (MV.val (Value.bool true), []) else bif decide (Pure.okG X Y S W H) then bif showOk X Y S W H 0 n1 (List.length (Pure.pic [] X Y S (Int.toNat W) (Int.toNat H))) (List.map (fun v => [v]) (Pure.pic [] X Y S (Int.toNat W) (Int.toNat H))) [] t1 then bif showOk X Y S W H n1 n2 (List.length (Pure.pic [] X Y S (Int.toNat W) (Int.toNat H))) (Prod.fst (showR X Y S W H t1 (harmL [] t1) (List.map (fun v => [v]) (Pure.pic [] X Y S (Int.toNat W) (Int.toNat H)), 0))) t1 t2 then bif showOk X Y S W H n2 n3 (List.length (Pure.pic [] X Y S (Int.toNat W) (Int.toNat H))) (Prod.fst (showR X Y S W H t2 (harmL t1 t2) (Prod.fst (showR X Y S W H t1 (harmL [] t1) (List.map (fun v => [v]) (Pure.pic [] X Y S (Int.toNat W) (Int.toNat H)), 0)), 0))) t2 t3 then bif showOk X Y S W H n3 n4 (List.length (Pure.pic [] X Y S (Int.toNat W) (Int.toNat H))) (Prod.fst (showR X Y S W H t3 (harmL t2 t3) (Prod.fst (showR X Y S W H t2 (harmL t1 t2) (Prod.fst (showR X Y S W H t1 (harmL [] t1) (List.map (fun v => [v]) (Pure.pic [] X Y S (Int.toNat W) (Int.toNat H)), 0)), 0)), 0))) t3 t4 then bif showOk X Y S W H n4 n5 (List.length (Pure.pic [] X Y S (Int.toNat W) (Int.toNat H))) (Prod.fst (showR X Y S W H t4 (harmL t3 t4) (Prod.fst (showR X Y S W H t3 (harmL t2 t3) (Prod.fst (showR X Y S W H t2 (harmL t1 t2) (Prod.fst (showR X Y S W H t1 (harmL [] t1) (List.map (fun v => [v]) (Pure.pic [] X Y S (Int.toNat W) (Int.toNat H)), 0)), 0)), 0)), 0))) t4 t5 then bif decide (List.length (Prod.fst (showR X Y S W H t5 (harmL t4 t5) (Prod.fst (showR X Y S W H t4 (harmL t3 t4) (Prod.fst (showR X Y S W H t3 (harmL t2 t3) (Prod.fst (showR X Y S W H t2 (harmL t1 t2) (Prod.fst (showR X Y S W H t1 (harmL [] t1) (List.map (fun v => [v]) (Pure.pic [] X Y S (Int.toNat W) (Int.toNat H)), 0)), 0)), 0)), 0)), 0))) = List.length (Pure.pic [] X Y S (Int.toNat W) (Int.toNat H)) ∧ List.length (Prod.fst (showR X Y S W H t5 (harmL t4 t5) (Prod.fst (showR X Y S W H t4 (harmL t3 t4) (Prod.fst (showR X Y S W H t3 (harmL t2 t3) (Prod.fst (showR X Y S W H t2 (harmL t1 t2) (Prod.fst (showR X Y S W H t1 (harmL [] t1) (List.map (fun v => [v]) (Pure.pic [] X Y S (Int.toNat W) (Int.toNat H)), 0)), 0)), 0)), 0)), 0))) ≤ 1000000) then bif List.length t5 == n5 then bif decide (List.length t5 ≤ 1000 ∧ Pure.okG X Y S W H) then bif List.length (Prod.fst (showR X Y S W H t5 (harmL t4 t5) (Prod.fst (showR X Y S W H t4 (harmL t3 t4) (Prod.fst (showR X Y S W H t3 (harmL t2 t3) (Prod.fst (showR X Y S W H t2 (harmL t1 t2) (Prod.fst (showR X Y S W H t1 (harmL [] t1) (List.map (fun v => [v]) (Pure.pic [] X Y S (Int.toNat W) (Int.toNat H)), 0)), 0)), 0)), 0)), 0))) == List.length (Prod.fst (showR X Y S W H t5 (harmL t4 t5) (Prod.fst (showR X Y S W H t4 (harmL t3 t4) (Prod.fst (showR X Y S W H t3 (harmL t2 t3) (Prod.fst (showR X Y S W H t2 (harmL t1 t2) (Prod.fst (showR X Y S W H t1 (harmL [] t1) (List.map (fun v => [v]) (Pure.pic [] X Y S (Int.toNat W) (Int.toNat H)), 0)), 0)), 0)), 0)), 0))) then bif List.length (picL t5 X Y S (Int.toNat W) (Int.toNat H)) == List.length (picL t5 X Y S (Int.toNat W) (Int.toNat H)) then bif decide (List.length (Prod.fst (showR X Y S W H t5 (harmL t4 t5) (Prod.fst (showR X Y S W H t4 (harmL t3 t4) (Prod.fst (showR X Y S W H t3 (harmL t2 t3) (Prod.fst (showR X Y S W H t2 (harmL t1 t2) (Prod.fst (showR X Y S W H t1 (harmL [] t1) (List.map (fun v => [v]) (Pure.pic [] X Y S (Int.toNat W) (Int.toNat H)), 0)), 0)), 0)), 0)), 0))) ≤ 1000000 ∧ List.length (picL t5 X Y S (Int.toNat W) (Int.toNat H)) ≤ 1000000) then some (MV.val (Value.bool (sameB (Prod.fst (showR X Y S W H t5 (harmL t4 t5) (Prod.fst (showR X Y S W H t4 (harmL t3 t4) (Prod.fst (showR X Y S W H t3 (harmL t2 t3) (Prod.fst (showR X Y S W H t2 (harmL t1 t2) (Prod.fst (showR X Y S W H t1 (harmL [] t1) (List.map (fun v => [v]) (Pure.pic [] X Y S (Int.toNat W) (Int.toNat H)), 0)), 0)), 0)), 0)), 0))) (picL t5 X Y S (Int.toNat W) (Int.toNat H)))), []) else none else none else none else none else none else none else none else none else none else none else none else none := by kernel_rfl
set_option maxRecDepth 100000 in
theorem drawNfM (X Y S W H : Int) (n : Nat) : xfun Try.prog E F9 8 10 [.agg [iv X, iv Y, iv S, iv W, iv H], .xs 0 n] [] fin =
  bif decide ((↑n : Int) > 5) then some (MV.val (Value.bool true), []) else bif decide (0 < (↑n : Int)) then none else bif !decide (Pure.okG X Y S W H) then some (MV.val (Value.bool true), []) else bif decide (IntKind.wrap IntKind.i64 (W * H) > 200) then some (MV.val (Value.bool true), []) else bif decide (Pure.okG X Y S W H) then bif decide (0 < (↑n : Int)) then none else bif decide (List.length (List.map (fun v => [v]) (Pure.pic [] X Y S (Int.toNat W) (Int.toNat H))) = List.length (Pure.pic [] X Y S (Int.toNat W) (Int.toNat H)) ∧ List.length (List.map (fun v => [v]) (Pure.pic [] X Y S (Int.toNat W) (Int.toNat H))) ≤ 1000000) then bif decide (List.length ([] : List (List Int)) ≤ 1000 ∧ Pure.okG X Y S W H) then bif List.length (List.map (fun v => [v]) (Pure.pic [] X Y S (Int.toNat W) (Int.toNat H))) == List.length (List.map (fun v => [v]) (Pure.pic [] X Y S (Int.toNat W) (Int.toNat H))) then bif List.length (picL [] X Y S (Int.toNat W) (Int.toNat H)) == List.length (picL [] X Y S (Int.toNat W) (Int.toNat H)) then bif decide (List.length (List.map (fun v => [v]) (Pure.pic [] X Y S (Int.toNat W) (Int.toNat H))) ≤ 1000000 ∧ List.length (picL [] X Y S (Int.toNat W) (Int.toNat H)) ≤ 1000000) then some (MV.val (Value.bool (sameB (List.map (fun v => [v]) (Pure.pic [] X Y S (Int.toNat W) (Int.toNat H))) (picL [] X Y S (Int.toNat W) (Int.toNat H)))), []) else none else none else none else none else none else none := by kernel_rfl
end Go.Proofs.Ytppklhfiajjhmaa.Ti
end
section
namespace Go.Proofs.Ytppklhfiajjhmaa.AskWords
open Go.RowKit
set_option linter.unusedVariables false
set_option linter.unusedSimpArgs false
theorem blk_lt {w : World} {g : Nat} {o : Obj} (h : w.heap[g]? = some o) : g < w.heap.size := (Array.getElem?_eq_some_iff.1 h).1
theorem blk_cell {w : World} {g : Nat} {t : TypeId} {cs : Array Value} {fz : Nat × Nat} (h : w.heap[g]? = some (.cells cs t fz)) (i : Nat) : w.cell? ⟨g, i, none⟩ = cs[i]? := by simp [World.cell?, h]
theorem blk_frozen {w : World} {g : Nat} {t : TypeId} {cs : Array Value} (h : w.heap[g]? = some (.cells cs t (0, 0))) (i : Nat) : w.frozen? ⟨g, i, none⟩ = false := by simp [World.frozen?, h]
theorem blk_alloc {w : World} {g : Nat} {o : Obj} (h : w.heap[g]? = some o) (o' : Obj) : (w.alloc o').heap[g]? = some o := by
  have := blk_lt h
  rw [Below.heap_alloc _ _ _ this, h]
theorem blk_new (w : World) (o : Obj) : (w.alloc o).heap[w.heap.size]? = some o := by
  show (w.heap.push o)[w.heap.size]? = _
  simp
theorem blk_drewN {w : World} {g : Nat} {o : Obj} (h : w.heap[g]? = some o) (n : Nat) : (w.drewN n).heap[g]? = some o := h
theorem blk_drew {w : World} {g : Nat} {o : Obj} (h : w.heap[g]? = some o) : (w.drew).heap[g]? = some o := h
def IsTrue (w : World) (e : Ending) (w' : World) : Prop := e = .returned (.bool true) ∧ Below w.heap.size w w'
theorem Keep.start (W : World) : Keep W [] W := ⟨Below.refl _ _, (fun _ h => by cases h), List.Pairwise.nil⟩
theorem Keep.drew {W w : World} {bs : List (Nat × Obj)} (h : Keep W bs w) : Keep W bs w.drew := ⟨h.bel.drew, h.blk, h.dec⟩
theorem Keep.drewN {W w : World} {bs : List (Nat × Obj)} (h : Keep W bs w) (n : Nat) : Keep W bs (w.drewN n) := ⟨below_drewN h.bel n, h.blk, h.dec⟩
theorem Keep.lt {W w : World} {bs : List (Nat × Obj)} (h : Keep W bs w) {b : Nat} {o : Obj} (hm : (b, o) ∈ bs) : b < w.heap.size := blk_lt (h.blk _ hm).2
theorem Keep.lt0 {W w : World} {bs : List (Nat × Obj)} {b : Nat} {o : Obj} (h : Keep W ((b, o) :: bs) w) : b < w.heap.size := h.lt List.mem_cons_self
end Go.Proofs.Ytppklhfiajjhmaa.AskWords
end
section
namespace Go.Proofs.Ytppklhfiajjhmaa.Reads
set_option linter.unusedVariables false
set_option linter.unusedSimpArgs false
open Go.RowKit Go.ChangeShapes Go.WideShapes Go.Deep
def I64 (n : Int) : Prop := -9223372036854775808 ≤ n ∧ n ≤ 9223372036854775807
def isI64 (v : Value) : Prop := ∃ n, v = .int .i64 n ∧ I64 n
def Fits : List (Value → Prop) → List Value → Prop
  | [], [] => True
  | p :: ps, c :: cs => p c ∧ Fits ps cs
  | _, _ => False
theorem fits_cons {p : Value → Prop} {ps : List (Value → Prop)} {cs : List Value} (h : Fits (p :: ps) cs) : ∃ c r, cs = c :: r ∧ p c ∧ Fits ps r := by
  cases cs with
  | nil => exact h.elim
  | cons c r => exact ⟨c, r, rfl, h.1, h.2⟩
theorem fits_nil {cs : List Value} (h : Fits [] cs) : cs = [] := by
  cases cs with
  | nil => rfl
  | cons c r => exact h.elim
theorem fits_append : ∀ (a b : List (Value → Prop)) (cs ds : List Value), Fits a cs → Fits b ds → Fits (a ++ b) (cs ++ ds)
  | [], b, [], ds, _, h => h
  | p :: ps, b, c :: cs, ds, h, k => ⟨h.1, fits_append ps b cs ds h.2 k⟩
  | [], _, _ :: _, _, h, _ => h.elim
  | _ :: _, _, [], _, h, _ => h.elim
def Opens (P : Program) (t : TypeId) (ps : List (Value → Prop)) : Prop :=
  P.cellsOf t = ps.length ∧ ∀ (H : Type) (enc : TypeId × Value → H) (w : World) (base : Nat) (spare : Nat → Bool) (held : Bool) (fuel : Nat) (cs : List Value) (x : DataW H × List MemPlace), DataW.trod enc P w base spare held fuel t cs = some x → Fits ps cs
theorem opens_i64 {P : Program} {t : TypeId} (ht : P.underlying t = some (.int .i64)) (hc : P.cellsOf t = 1) : Opens P t [isI64] := by
  refine ⟨hc, fun H enc w base spare held fuel cs x h => ?_⟩
  obtain ⟨n, rfl, _, h3⟩ := DataW.trod_int ht h
  exact ⟨⟨n, rfl, bounds_i64 h3⟩, trivial⟩
def FO (P : Program) (fs : Array Field) (tot j off : Nat) (ps : List (Value → Prop)) : Prop :=
  ∀ (H : Type) (enc : TypeId × Value → H) (w : World) (base : Nat) (spare : Nat → Bool) (held : Bool) (n : Nat) (cs : List Value), cs.length = tot →
    (∀ (i : Nat) (f : Field), j ≤ i → fs[i]? = some f → ∃ y, DataW.trod enc P w base spare held n f.type ((cs.drop f.offset).take (P.cellsOf f.type)) = some y) → Fits ps (cs.drop off)
theorem fo_last {P : Program} {fs : Array Field} {tot j off : Nat} {ps : List (Value → Prop)} {f : Field} (hf : fs[j]? = some f) (ho : f.offset = off) (ht : off + ps.length = tot) (he : Opens P f.type ps) : FO P fs tot j off ps := by
  intro H enc w base spare held n cs hl h
  obtain ⟨y, hy⟩ := h j f (Nat.le_refl _) hf
  have hz := he.2 H enc w base spare held n _ _ hy
  rw [ho, he.1, List.take_of_length_le (by rw [List.length_drop]; omega)] at hz
  exact hz
theorem fo_cons {P : Program} {fs : Array Field} {tot j off : Nat} {ps a b : List (Value → Prop)} {f : Field} (hf : fs[j]? = some f) (ho : f.offset = off) (he : Opens P f.type a)
    (hr : FO P fs tot (j + 1) (off + a.length) b) (e : ps = a ++ b) : FO P fs tot j off ps := by
  subst e
  intro H enc w base spare held n cs hl h
  obtain ⟨y, hy⟩ := h j f (Nat.le_refl _) hf
  have hz := he.2 H enc w base spare held n _ _ hy
  have hz2 := hr H enc w base spare held n cs hl (fun i g hi hg => h i g (by omega) hg)
  rw [ho, he.1] at hz
  rw [← List.drop_drop] at hz2
  have := fits_append _ _ _ _ hz hz2
  rwa [List.take_append_drop] at this
theorem opens_struct {P : Program} {t : TypeId} {fs : Array Field} {ps : List (Value → Prop)} (ht : P.underlying t = some (.struct fs)) (hc : P.cellsOf t = ps.length) (he : FO P fs ps.length 0 0 ps) : Opens P t ps := by
  refine ⟨hc, fun H enc w base spare held fuel cs x h => ?_⟩
  obtain ⟨xs, n, _, _, hl, hxl, hi⟩ := DataW.trod_struct ht h
  exact he H enc w base spare held n cs (hl.trans hc) (fun i f _ hf => by
    have h1 := hi i f hf
    have : i < fs.size := (Array.getElem?_eq_some_iff.1 hf).1
    rw [List.getElem?_eq_getElem (by omega)] at h1
    exact ⟨_, h1⟩)
section
variable {H : Type} {enc : TypeId × Value → H} {P : Program} {w : World} {base : Nat} {spare : Nat → Bool} {held : Bool} {t : TypeId} {v : Value} {dd : DataW H} {ps : List MemPlace} {r : Reach} {b0 : Nat}
theorem list_of {α : Type} [Inhabited α] {p : Nat → α → Prop} (n : Nat) (h : ∀ i, i < n → ∃ x, p i x) : ∃ xs : List α, xs.length = n ∧ ∀ i x, xs[i]? = some x → p i x := by
  obtain ⟨f, hf⟩ := choose_lt (n := n) (p := p) h
  refine ⟨(List.range n).map f, by simp, fun i x hx => ?_⟩
  rw [List.getElem?_map] at hx
  by_cases hi : i < n
  · rw [List.getElem?_range hi] at hx
    simp at hx
    exact hx ▸ hf i hi
  · rw [List.getElem?_eq_none (by simp; omega)] at hx
    simp at hx
def Rows (w : World) (A : Option Addr) (sz : Nat) (qs : List (Value → Prop)) (xs : List (List Value)) : Prop :=
  (∀ x ∈ xs, Fits qs x) ∧ ∀ (i : Nat) (x : List Value), xs[i]? = some x → ∃ a, A = some a ∧ ∀ (j : Nat) (u : Value), x[j]? = some u → w.cell? (a.add (i * sz + j)) = some u
theorem arg_struct {fs : Array Field} {qs : List (Value → Prop)} (ht : P.underlying t = some (.struct fs)) (he : Opens P t qs) (hv : Value.okWide P w r b0 t v) (h : DataW.Trod enc P w base spare held t v dd ps) :
    ∃ (cs : List Value), v = .agg cs.toArray ∧ Fits qs cs := by
  obtain ⟨cs, rfl, _⟩ := okWide_struct ht hv
  obtain ⟨fuel, hf⟩ := h
  exact ⟨cs.toList, by simp, by simpa [Value.cells] using he.2 H enc w base spare held fuel _ _ hf⟩
end
end Go.Proofs.Ytppklhfiajjhmaa.Reads
end
section
namespace Go.Proofs.Ytppklhfiajjhmaa.Y
open Go Go.RowKit Go.Proofs.Ytppklhfiajjhmaa.Reads Go.ChangeShapes Go.WideShapes Go.Deep
set_option linter.unusedVariables false
set_option linter.unusedSimpArgs false
def InAt (w : World) (A : Option Addr) (us : List Value) : Prop := ∀ j u, us[j]? = some u → ∃ a, A = some a ∧ w.cell? (a.add j) = some u
theorem InAt.blk {w : World} {A : Option Addr} {us : List Value} (h : InAt w A us) (hne : us ≠ []) :
  ∃ g off pre rest ty fr, A = some ⟨g, off, none⟩ ∧ w.heap[g]? = some (.cells (pre ++ (us ++ rest)).toArray ty fr) ∧ pre.length = off := by
 obtain ⟨u0, us', rfl⟩ := List.exists_cons_of_ne_nil hne
 obtain ⟨a, rfl, h0⟩ := h 0 u0 rfl
 obtain ⟨g, off, spot⟩ := a
 have hs : spot = none := by
  have h1 : (⟨g, off, spot⟩ : Addr).add 0 = ⟨g, off, spot⟩ := rfl
  rw [h1] at h0
  unfold World.cell? at h0
  split at h0
  ·cases spot with
   | none => rfl
   | some s => simp at h0
  ·cases h0
 subst hs
 have hh : ∃ c ty fr, w.heap[g]? = some (.cells c ty fr) := by
  unfold World.cell? at h0
  split at h0
  ·rename_i c ty fr hc
   exact ⟨c, ty, fr, by simpa [Addr.add] using hc⟩
  ·cases h0
 obtain ⟨c, ty, fr, hc⟩ := hh
 have hget : ∀ j u, (u0 :: us')[j]? = some u → c.toList[off + j]? = some u := by
  intro j u hj
  obtain ⟨a, ha, h1⟩ := h j u hj
  injection ha with ha; subst ha
  rw [addr_add] at h1
  simp only [World.cell?, hc, Option.isSome_none, Bool.false_eq_true, if_false] at h1
  simpa using h1
 have hlen : off + (u0 :: us').length ≤ c.toList.length := by
  have hl : us'.length < (u0 :: us').length := by simp
  have := hget us'.length _ (List.getElem?_eq_getElem hl)
  have := (List.getElem?_eq_some_iff.1 this).1
  simp only [List.length_cons]; omega
 have e : c.toList = c.toList.take off ++ ((u0 :: us') ++ c.toList.drop (off + (u0 :: us').length)) := by
  have e1 : u0 :: us' = (c.toList.drop off).take (u0 :: us').length := by
   apply List.ext_getElem?
   intro j
   by_cases hj : j < (u0 :: us').length
   ·rw [List.getElem?_take, if_pos hj, List.getElem?_drop, List.getElem?_eq_getElem hj]
    exact (hget j _ (List.getElem?_eq_getElem hj)).symm
   ·rw [List.getElem?_eq_none (by omega), List.getElem?_eq_none (by rw [List.length_take]; omega)]
  have e2 : c.toList.drop (off + (u0 :: us').length) = (c.toList.drop off).drop (u0 :: us').length := by rw [List.drop_drop]
  rw [e2]
  conv => rhs; rhs; lhs; rw [e1]
  rw [List.take_append_drop, List.take_append_drop]
 refine ⟨g, off, c.toList.take off, c.toList.drop (off + (u0 :: us').length), ty, fr, rfl, ?_, by rw [List.length_take]; omega⟩
 rw [← e, hc]
structure InB where
 A : Option Addr
 k : Blk
 us : List Value
def fOf : Option InB → Option Nat
 | some e => if e.us = [] then none else e.A.map (·.block)
 | none => none
def oOf : Option InB → Nat
 | some ⟨some a, _, _⟩ => a.off
 | _ => 0
def kOf (w : World) : Option InB → Nat
 | some ⟨some a, _, _⟩ => match w.heap[a.block]? with
  | some (.cells c _ _) => c.size - a.off
  | _ => 0
 | _ => 0
def sgOf (w : World) (x : Nat → Value) (L : List InB) : Sg := ⟨fun i => fOf L[i]?, fun i => kOf w L[i]?, x, fun i => oOf L[i]?⟩
theorem oOf_eq {e : InB} {a : Addr} (h : e.A = some a) : oOf (some e) = a.off := by obtain ⟨A, k, us⟩ := e; simp only at h; subst h; rfl
theorem kOf_eq {w : World} {e : InB} {a : Addr} {c : Array Value} {ty : TypeId} {fr : Nat × Nat} (h : e.A = some a) (hh : w.heap[a.block]? = some (.cells c ty fr)) : kOf w (some e) = c.size - a.off := by obtain ⟨A, k, us⟩ := e; simp only at h; subst h; simp [kOf, hh]
theorem rm_ins {w : World} (x : Nat → Value) (L : List InB) (h : ∀ (i : Nat) (e : InB), L[i]? = some e → e.k.ro = true ∧ InAt w e.A e.us ∧ RVs (sgOf w x L) e.k.cells e.us) :
  RM ⟨w.heap.size, fun _ => False⟩ w (sgOf w x L) (L.map fun e => some e.k) w := by
 have get : ∀ (i : Nat) (k : Blk), (L.map fun e => some e.k)[i]? = some (some k) → ∃ e, L[i]? = some e ∧ e.k = k := by
  intro i k hk
  rw [List.getElem?_map] at hk
  obtain ⟨e, h1, h2⟩ := Option.map_eq_some_iff.1 hk
  exact ⟨e, h1, by injection h2⟩
 have at_ : ∀ (i g : Nat) (e : InB), L[i]? = some e → sgOf w x L i = some g → e.us ≠ [] ∧ ∃ off pre rest ty fr, e.A = some ⟨g, off, none⟩ ∧ w.heap[g]? = some (.cells (pre ++ (e.us ++ rest)).toArray ty fr) ∧ pre.length = off := by
  intro i g e he hg
  have hg' : fOf L[i]? = some g := hg
  rw [he] at hg'
  simp only [fOf] at hg'
  split at hg'
  ·cases hg'
  ·rename_i hne
   obtain ⟨g', off, pre, rest, ty, fr, h1, h2, h3⟩ := (h i e he).2.1.blk hne
   rw [h1] at hg'
   simp only [Option.map_some, Option.some.injEq] at hg'
   subst hg'
   exact ⟨hne, off, pre, rest, ty, fr, h1, h2, h3⟩
 refine ⟨fun i k g hk hg => ?_, fun i j g ki kj hi hj r1 r2 n1 n2 h1 h2 => ?_, fun i g hg => ?_, fun i g k hk hg hr => ?_, fun i g k hk hg hr _ => ?_, Bel.refl _ _, Nat.le_refl _⟩
 ·obtain ⟨e, he, rfl⟩ := get i k hk
  obtain ⟨hne, off, pre, rest, ty, fr, h1, h2, h3⟩ := at_ i g e he hg
  obtain ⟨hro, _, hv⟩ := h i e he
  refine ⟨pre, e.us, rest, ⟨ty, fr, h2, fun hh => by rw [hro] at hh; cases hh⟩, hv, ?_, ?_, fun hh => by rw [hro] at hh; cases hh⟩
  ·show _ = kOf w L[i]?
   rw [he, kOf_eq h1 h2]
   simp only [← h3]
   simp
  ·show _ = oOf L[i]?
   rw [he, oOf_eq h1]
   exact h3
 ·obtain ⟨e, he, rfl⟩ := get i ki hi
  rw [(h i e he).1] at r1; cases r1
 ·have hg' : fOf L[i]? = some g := hg
  cases he : L[i]? with
  | none => rw [he] at hg'; cases hg'
  | some e => exact ⟨e.k, by rw [List.getElem?_map, he]; rfl⟩
 ·obtain ⟨e, he, rfl⟩ := get i k hk
  rw [(h i e he).1] at hr; cases hr
 ·obtain ⟨e, he, rfl⟩ := get i k hk
  obtain ⟨hne, off, pre, rest, ty, fr, h1, h2, h3⟩ := at_ i g e he hg
  have hlt := (Array.getElem?_eq_some_iff.1 h2).1
  rintro (hh | hh)
  ·exact absurd hlt (Nat.not_lt.2 hh)
  ·exact hh
theorem va_in {w : World} {x : Nat → Value} {L : List InB} {i n c s : Nat} {e : InB} (he : L[i]? = some e) (hin : InAt w e.A e.us) (hn : n ≤ c) (h0 : 0 < n → e.us ≠ []) : RV (sgOf w x L) (.va i 0 n s) (.slice e.A n c) := by
 simp only [RV]
 refine ⟨e.A, c, rfl, hn, fun hp => ?_⟩
 obtain ⟨g, off, pre, rest, ty, fr, h1, h2, h3⟩ := hin.blk (h0 hp)
 refine ⟨g, ?_, ?_⟩
 ·show fOf L[i]? = some g
  rw [he]
  simp only [fOf]
  rw [if_neg (h0 hp), h1]
  rfl
 ·rw [h1]
  show _ = some (⟨g, oOf L[i]? + 0 * s, none⟩ : Addr)
  rw [he, oOf_eq h1]
  simp
theorem fits_i64 : ∀ (n : Nat) (y : List Value), Fits (List.replicate n isI64) y → ∃ r : List Int, r.length = n ∧ y = recV (i64s n) 0 r ∧ ∀ v ∈ r, I64 v
 | 0, y, h => ⟨[], rfl, fits_nil h, by simp⟩
 | n + 1, y, h => by
  obtain ⟨c, r, rfl, ⟨v, rfl, hv⟩, hr⟩ := fits_cons h
  obtain ⟨l, h1, rfl, h3⟩ := fits_i64 n r hr
  have key : ∀ (s : Nat) (k : Nat) (l : List Int), recV (i64s s) (k + 1) (v :: l) = recV (i64s s) k l := by
   intro s
   induction s with
   | zero => intro k l; rfl
   | succ s ih =>
    intro k l
    show Value.int .i64 ((v :: l).getD (k + 1) 0) :: recV (i64s s) (k + 1 + 1) (v :: l) = .int .i64 (l.getD k 0) :: recV (i64s s) (k + 1) l
    rw [ih]
    rfl
  refine ⟨v :: l, by simp [h1], ?_, ?_⟩
  ·show _ = Value.int .i64 v :: recV (i64s n) 1 (v :: l)
   rw [key]
  ·intro x hx
   rcases List.mem_cons.1 hx with rfl | hx
   ·exact hv
   ·exact h3 x hx
theorem rows_in {w : World} {A : Option Addr} {n : Nat} {ys : List (List Value)} (h : Go.Proofs.Ytppklhfiajjhmaa.Reads.Rows w A n (List.replicate n isI64) ys) (hn : 0 < n) :
  ∃ it : List (List Int), it.length = ys.length ∧ InAt w A (rowsV (i64s n) it) ∧ (∀ r ∈ it, ∀ v ∈ r, I64 v) ∧ ∀ r ∈ it, r.length = n := by
 obtain ⟨h1, h2⟩ := h
 have hex : ∀ y, ∃ r : List Int, y ∈ ys → (r.length = n ∧ y = recV (i64s n) 0 r ∧ ∀ v ∈ r, I64 v) := by
  intro y
  by_cases hy : y ∈ ys
  ·obtain ⟨r, g1, g2, g3⟩ := fits_i64 n y (h1 y hy)
   exact ⟨r, fun _ => ⟨g1, g2, g3⟩⟩
  ·exact ⟨[], fun hc => absurd hc hy⟩
 obtain ⟨f, hf⟩ := Classical.axiomOfChoice hex
 refine ⟨ys.map f, by simp, ?_, ?_, ?_⟩
 ·intro j u hj
  have hl := rowsV_len (i64s n) (ys.map f)
  have hs : (i64s n).length = n := by simp [i64s]
  rw [hs, List.length_map] at hl
  have hjl := (List.getElem?_eq_some_iff.1 hj).1
  rw [hl] at hjl
  have hq : j / n < ys.length := (Nat.div_lt_iff_lt_mul hn).2 hjl
  have hm : j % n < n := Nat.mod_lt _ hn
  have hg : (ys.map f).getD (j / n) [] = f ys[j / n] := by simp [List.getD_eq_getElem?_getD, hq]
  have hy := hf ys[j / n] (List.getElem_mem hq)
  have hrl : j % n < (recV (i64s n) 0 ((ys.map f).getD (j / n) [])).length := by rw [recV_len, hs]; exact hm
  have h3 := rowsV_get (l := ys.map f) (by simpa using hq) (List.getElem?_eq_getElem hrl)
  rw [hs, Nat.div_add_mod'] at h3
  rw [hj] at h3
  simp only [Option.some.injEq] at h3
  obtain ⟨a, ha, hc⟩ := h2 (j / n) ys[j / n] (List.getElem?_eq_getElem hq)
  refine ⟨a, ha, ?_⟩
  have h4 : (ys[j / n])[j % n]? = some u := by
   rw [h3, ← List.getElem?_eq_getElem, hg, ← hy.2.1]
  have h5 := hc (j % n) u h4
  rwa [Nat.div_add_mod'] at h5
 ·intro r hr v hv
  obtain ⟨y, hy, rfl⟩ := List.mem_map.1 hr
  exact (hf y hy).2.2 v hv
 ·intro r hr
  obtain ⟨y, hy, rfl⟩ := List.mem_map.1 hr
  exact (hf y hy).1
theorem arg_slices {H : Type} {enc : TypeId × Value → H} {P : Program} {w : World} {base : Nat} {spare : Nat → Bool} {held : Bool} {t : TypeId} {v : Value} {dd : DataW H} {ps : List MemPlace} {r : Reach} {b0 : Nat} {e e1 : TypeId} {qs : List (Value → Prop)}
  (ht : P.underlying t = some (.slice e)) (he : P.underlying e = some (.slice e1)) (hce : P.cellsOf e = 1) (he1 : Opens P e1 qs) (hv : Value.okWide P w r b0 t v) (h : DataW.Trod enc P w base spare held t v dd ps) :
  ∃ (A : Option Addr) (c : Nat) (xs : List Value), v = .slice A xs.length c ∧ xs.length ≤ c ∧ c ≤ 9223372036854775807 ∧ InAt w A xs ∧
   ∀ x ∈ xs, ∃ (A' : Option Addr) (c' : Nat) (ys : List (List Value)), x = .slice A' ys.length c' ∧ ys.length ≤ c' ∧ Go.Proofs.Ytppklhfiajjhmaa.Reads.Rows w A' qs.length qs ys := by
 obtain ⟨a, len, cap, rfl⟩ := okWide_slice ht hv
 obtain ⟨fuel, hf⟩ := h
 rcases open_slice ht hf with ⟨h0, _⟩ | ⟨a, len', cap', m, n, D, Pl, h0, _, hl, hm, hmm, _, hi⟩
 ·simp only [Value.cells, Array.toList] at h0
  simp only [List.cons.injEq, Value.slice.injEq, and_true] at h0
  obtain ⟨rfl, rfl, rfl⟩ := h0
  exact ⟨none, 0, [], rfl, Nat.le_refl _, by omega, by intro j u hj; simp at hj, by simp⟩
 simp only [Value.cells, Array.toList] at h0
 simp only [List.cons.injEq, Value.slice.injEq, and_true] at h0
 obtain ⟨rfl, rfl, rfl⟩ := h0
 have hlm : len ≤ m := by rw [hmm]; split <;> omega
 obtain ⟨xs, hlen, hxs⟩ := list_of (α := Value) (p := fun i c => w.cell? (a.add i) = some c ∧ ∃ (A' : Option Addr) (c' : Nat) (ys : List (List Value)), c = .slice A' ys.length c' ∧ ys.length ≤ c' ∧ Go.Proofs.Ytppklhfiajjhmaa.Reads.Rows w A' qs.length qs ys) len (fun i hil => by
  obtain ⟨cs', h1, h2⟩ := hi i (by omega)
  obtain ⟨_, hcl, hat⟩ := World.cells?_some h1
  rw [hce] at hcl hat
  rcases open_slice he h2 with ⟨h0, _⟩ | ⟨a', len', cap'', m', n', D', Pl', h0, _, hl', hm', hmm', _, hi'⟩
  ·subst h0
   have h3 := hat 0 (by omega)
   rw [Nat.mul_one] at h3
   exact ⟨_, h3, none, 0, [], rfl, Nat.le_refl _, by simp, fun i x hx => by simp at hx⟩
  ·subst h0
   have h3 := hat 0 (by omega)
   rw [Nat.mul_one] at h3
   have hlm' : len' ≤ m' := by rw [hmm']; split <;> omega
   obtain ⟨ys, hylen, hys⟩ := list_of (α := List Value) (p := fun i c => Fits qs c ∧ ∀ j u, c[j]? = some u → w.cell? (a'.add (i * qs.length + j)) = some u) len' (fun i hil => by
    obtain ⟨cs', h1, h2⟩ := hi' i (by omega)
    have hy := he1.2 H enc w base spare held n' cs' _ h2
    obtain ⟨_, hcl, hat⟩ := World.cells?_some h1
    rw [he1.1] at hcl hat
    refine ⟨cs', hy, fun j u hj => ?_⟩
    have hjl : j < cs'.length := (List.getElem?_eq_some_iff.1 hj).1
    have h3 := hat j (by omega)
    rw [Go.Deep.add_add] at h3
    exact h3.trans hj)
   subst hylen
   refine ⟨_, h3, some a', cap'', ys, rfl, hl', ⟨fun x hx => ?_, fun i x hx => ⟨a', rfl, (hys i x hx).2⟩⟩⟩
   obtain ⟨j, hj, rfl⟩ := List.mem_iff_getElem.1 hx
   exact (hys j _ (List.getElem?_eq_getElem hj)).1)
 subst hlen
 refine ⟨some a, cap, xs, rfl, hl, by unfold maxLen at hm; omega, fun j u hj => ⟨a, rfl, (hxs j u hj).1⟩, fun x hx => ?_⟩
 obtain ⟨j, hj, rfl⟩ := List.mem_iff_getElem.1 hx
 exact (hxs j _ (List.getElem?_eq_getElem hj)).2
end Go.Proofs.Ytppklhfiajjhmaa.Y
end
section
namespace Go.Proofs.Ytppklhfiajjhmaa.Ti
open Go Go.RowKit Go.Proofs.Ytppklhfiajjhmaa.Y Go.Proofs.Ytppklhfiajjhmaa.AskWords Go.Proofs.Ytppklhfiajjhmaa.Reads
set_option linter.unusedVariables false
set_option linter.unusedSimpArgs false
structure In1 where
 A : Option Addr
 c : Nat
 it : List (List Int)
def In1.ok (w : World) (e : In1) : Prop := e.it.length ≤ e.c ∧ InAt w e.A (rowsV (i64s 15) e.it)
def In1.v (e : In1) : Value := .slice e.A e.it.length e.c
def In1.b (e : In1) : InB := ⟨e.A, ⟨.rrecs (i64s 15) e.it, 39⟩, rowsV (i64s 15) e.it⟩
theorem in1 {w : World} {A : Option Addr} {c : Nat} {ys : List (List Value)} (hc : ys.length ≤ c) (h : Go.Proofs.Ytppklhfiajjhmaa.Reads.Rows w A 15 (List.replicate 15 isI64) ys) : ∃ e : In1, e.ok w ∧ e.v = .slice A ys.length c ∧ e.it.length = ys.length := by
 obtain ⟨it, h1, h2, _⟩ := rows_in h (by omega)
 exact ⟨⟨A, c, it⟩, ⟨by rw [h1]; exact hc, h2⟩, by unfold In1.v; rw [h1], h1⟩
theorem in1s {w : World} : ∀ xs : List Value, (∀ x ∈ xs, ∃ (A' : Option Addr) (c' : Nat) (ys : List (List Value)), x = .slice A' ys.length c' ∧ ys.length ≤ c' ∧ Go.Proofs.Ytppklhfiajjhmaa.Reads.Rows w A' 15 (List.replicate 15 isI64) ys) →
  ∃ es : List In1, xs = es.map In1.v ∧ ∀ e ∈ es, e.ok w
 | [], _ => ⟨[], rfl, by simp⟩
 | x :: xs, h => by
  obtain ⟨A, c, ys, rfl, h2, h3⟩ := h x (by simp)
  obtain ⟨e, e1, e2, _⟩ := in1 h2 h3
  obtain ⟨es, f1, f2⟩ := in1s xs (fun x hx => h x (by simp [hx]))
  refine ⟨e :: es, by rw [List.map_cons, e2, f1], fun x hx => ?_⟩
  rcases List.mem_cons.1 hx with rfl | hx
  ·exact e1
  ·exact f2 x hx
def outB (A : Option Addr) (es : List In1) : InB := ⟨A, ⟨.rlst (es.zipIdx.map fun p => .va (p.2 + 1) 0 p.1.it.length 15), 22⟩, es.map In1.v⟩
def inL (A : Option Addr) (es : List In1) : List InB := outB A es :: es.map In1.b
theorem RVs_of {σ : Sg} : ∀ {l : List MV} {us : List Value}, l.length = us.length → (∀ (i : Nat) x u, l[i]? = some x → us[i]? = some u → RV σ x u) → RVs σ l us
 | [], [], _, _ => by simp [RVs]
 | [], _ :: _, h, _ => by simp at h
 | _ :: _, [], h, _ => by simp at h
 | x :: l, u :: us, h, k => by
  simp only [RVs]
  exact ⟨u, us, rfl, k 0 x u rfl rfl, RVs_of (by simpa using h) (fun i x u h1 h2 => k (i + 1) x u (by simpa using h1) (by simpa using h2))⟩
theorem inL_rm {w : World} {A : Option Addr} {es : List In1} (hin : InAt w A (es.map In1.v)) (he : ∀ e ∈ es, e.ok w) (x : Nat → Value) :
  RM ⟨w.heap.size, fun _ => False⟩ w (sgOf w x (inL A es)) ((inL A es).map fun e => some e.k) w := by
 refine rm_ins x _ (fun i e hi => ?_)
 cases i with
 | zero =>
  simp only [inL, List.getElem?_cons_zero, Option.some.injEq] at hi
  subst hi
  refine ⟨rfl, hin, RVs_of (by simp [outB, Blk.cells]) (fun j x u h1 h2 => ?_)⟩
  have h1' : (es.zipIdx.map fun p => MV.va (p.2 + 1) 0 p.1.it.length 15)[j]? = some x := h1
  have h2' : (es.map In1.v)[j]? = some u := h2
  rw [List.getElem?_map, List.getElem?_zipIdx] at h1'
  rw [List.getElem?_map] at h2'
  cases hj : es[j]? with
  | none => rw [hj] at h2'; simp at h2'
  | some e =>
   rw [hj] at h1' h2'
   simp only [Option.map_some, Option.some.injEq, Nat.zero_add] at h1' h2'
   subst h1'; subst h2'
   obtain ⟨k1, k2⟩ := he e (List.mem_of_getElem? hj)
   refine va_in (e := e.b) (by simp [inL, hj]) k2 k1 (fun hp hc => ?_)
   have := rowsV_len (i64s 15) e.it
   have hc' : rowsV (i64s 15) e.it = [] := hc
   rw [hc'] at this
   simp [i64s] at this
   omega
 | succ i =>
  simp only [inL, List.getElem?_cons_succ, List.getElem?_map] at hi
  obtain ⟨e1, h1, rfl⟩ := Option.map_eq_some_iff.1 hi
  obtain ⟨k1, k2⟩ := he e1 (List.mem_of_getElem? h1)
  exact ⟨rfl, k2, rows_RVs _ _ _⟩
theorem sl_in {w : World} {x : Nat → Value} {A : Option Addr} {es : List In1} {c : Nat} (hin : InAt w A (es.map In1.v)) (hne : es ≠ []) : RV (sgOf w x (inL A es)) (.sl 0 0 es.length c) (.slice A es.length c) := by
 obtain ⟨g, off, pre, rest, ty, fr, h1, h2, h3⟩ := hin.blk (by simpa using hne)
 subst h1
 simp only [RV]
 refine ⟨g, ?_, ?_⟩
 ·show fOf (some (outB (some ⟨g, off, none⟩) es)) = some g
  unfold fOf outB
  simp only
  rw [if_neg (by simpa using hne)]
  rfl
 ·rfl
theorem any_of {n f : Nat} {args : List MV} {us : List Value} {w : World} {σ : Sg} {m : Mem} (hx : xfun Try.prog E F9 n f args m fin = some (.val (.bool true), [])) (hu : RVs σ args us) (hM : RM ⟨w.heap.size, fun _ => False⟩ w σ m w) :
  Calls Try.prog f us.toArray w (IsTrue w) := by
 refine Calls.mono (xfun_ok E_ok F9_ok mixed hx trivial hu hM) ?_
 rintro e w' ⟨v, m', σ', u, h1, rfl, h3, h4, h5⟩
 simp only [Option.some.injEq, Prod.mk.injEq, and_true] at h1
 subst h1
 simp only [RV] at h4
 subst h4
 exact ⟨rfl, h5.bel.to⟩
section
variable {X Y S : Int} {W H : Nat} (hG : Pure.okG X Y S (W : Int) (H : Int))
include hG
theorem grid_HW : H * W ≤ 4096 ∧ ((H * W : Nat) : Int) = (W : Int) * H := by
 obtain ⟨g1, g2, g3, g4, g5, _⟩ := hG
 have e : (W : Int) * (H : Int) = ((H * W : Nat) : Int) := by rw [Int.mul_comm]; push_cast; rfl
 exact ⟨by omega, e.symm⟩
theorem showOk_pic (old new : List (List Int)) (ho : old.length ≤ 5) (hn : new.length ≤ 5) : showOk X Y S W H old.length new.length (picL [] X Y S W H).length (picL old X Y S W H) old new = true := by
 have e := (grid_HW hG).2
 unfold showOk
 exact decide_eq_true ⟨hG, by rw [picL_len, e, Int.mul_comm], by rw [picL_len, picL_len], rfl, rfl, by omega⟩
theorem big_ok (l : List (List Int)) : decide ((picL l X Y S W H).length = (picL [] X Y S W H).length ∧ (picL l X Y S W H).length ≤ 1000000) = true := by
 have := (grid_HW hG).1
 exact decide_eq_true ⟨by rw [picL_len, picL_len], by rw [picL_len]; omega⟩
theorem big2_ok (l : List (List Int)) : decide ((picL l X Y S W H).length ≤ 1000000 ∧ (picL l X Y S W H).length ≤ 1000000) = true := by
 have := (grid_HW hG).1
 exact decide_eq_true ⟨by rw [picL_len]; omega, by rw [picL_len]; omega⟩
theorem few_ok (l : List (List Int)) (h : l.length ≤ 5) : decide (l.length ≤ 1000 ∧ Pure.okG X Y S W H) = true := decide_eq_true ⟨by omega, hG⟩
end
theorem same_self (l : List (List Int)) : sameB l l = true := decide_eq_true rfl
theorem pic_nil (X Y S : Int) (W H : Nat) : List.map (fun v => [v]) (Pure.pic [] X Y S W H) = picL [] X Y S W H := rfl
theorem pic_nil_len (X Y S : Int) (W H : Nat) : (Pure.pic [] X Y S W H).length = (picL [] X Y S W H).length := by unfold picL; rw [List.length_map]; rfl
theorem beq_len (n : Nat) : (n == n) = true := by simp
theorem draw0 (X Y S W H : Int) : xfun Try.prog E F9 8 10 [.agg [iv X, iv Y, iv S, iv W, iv H], .es] [] fin = some (.val (.bool true), []) := by
 rw [drawNf0]
 cases hg : decide (Pure.okG X Y S W H) with
 | false => rfl
 | true =>
 have hG := of_decide_eq_true hg
 obtain ⟨Wn, rfl⟩ : ∃ n : Nat, W = n := ⟨W.toNat, by obtain ⟨g, _⟩ := hG; omega⟩
 obtain ⟨Hn, rfl⟩ : ∃ n : Nat, H = n := ⟨H.toNat, by obtain ⟨_, g, _⟩ := hG; omega⟩
 simp only [cond_true, cond_false, Bool.not_true, Int.toNat_natCast]
 cases hc : decide (IntKind.wrap IntKind.i64 ((Wn : Int) * Hn) > 200) with
 | true => rfl
 | false =>
 have f := few_ok hG [] (by simp)
 have hb := (grid_HW hG).1
 have hb2 : (picL [] X Y S Wn Hn).length ≤ 1000000 := by rw [picL_len]; omega
 simp only [pic_nil, pic_nil_len, cond_false, cond_true, f, beq_len, same_self, hb2, and_self, decide_true]
theorem draw1 (X Y S W H : Int) (c : Nat) (e1 : In1) : xfun Try.prog E F9 8 10 [.agg [iv X, iv Y, iv S, iv W, iv H], .sl 0 0 1 c] [some ⟨.rlst [.va 1 0 e1.it.length 15], 22⟩, some ⟨.rrecs (i64s 15) e1.it, 39⟩] fin = some (.val (.bool true), []) := by
 rw [drawNf1]
 cases hn0 : decide ((e1.it.length : Int) > 5) with
 | true => rfl
 | false =>
 have hn0' := of_decide_eq_false hn0
 cases hg : decide (Pure.okG X Y S W H) with
 | false => rfl
 | true =>
 have hG := of_decide_eq_true hg
 obtain ⟨Wn, rfl⟩ : ∃ n : Nat, W = n := ⟨W.toNat, by obtain ⟨g, _⟩ := hG; omega⟩
 obtain ⟨Hn, rfl⟩ : ∃ n : Nat, H = n := ⟨H.toNat, by obtain ⟨_, g, _⟩ := hG; omega⟩
 simp only [cond_true, cond_false, Bool.not_true, Int.toNat_natCast]
 cases hc : decide (IntKind.wrap IntKind.i64 ((Wn : Int) * Hn) > 200) with
 | true => rfl
 | false =>
 have s0 := showOk_pic hG [] e1.it (by simp) (by omega)
 have f := few_ok hG e1.it (by omega)
 simp only [List.length_nil] at s0
 simp only [pic_nil, pic_nil_len, show_pic hG, cond_false, cond_true, s0, big_ok hG, big2_ok hG, f, beq_len, same_self]
theorem draw2 (X Y S W H : Int) (c : Nat) (e1 e2 : In1) : xfun Try.prog E F9 8 10 [.agg [iv X, iv Y, iv S, iv W, iv H], .sl 0 0 2 c] [some ⟨.rlst [.va 1 0 e1.it.length 15, .va 2 0 e2.it.length 15], 22⟩, some ⟨.rrecs (i64s 15) e1.it, 39⟩, some ⟨.rrecs (i64s 15) e2.it, 39⟩] fin = some (.val (.bool true), []) := by
 rw [drawNf2]
 cases hn0 : decide ((e1.it.length : Int) > 5) with
 | true => rfl
 | false =>
 have hn0' := of_decide_eq_false hn0
 cases hn1 : decide ((e2.it.length : Int) > 5) with
 | true => rfl
 | false =>
 have hn1' := of_decide_eq_false hn1
 cases hg : decide (Pure.okG X Y S W H) with
 | false => rfl
 | true =>
 have hG := of_decide_eq_true hg
 obtain ⟨Wn, rfl⟩ : ∃ n : Nat, W = n := ⟨W.toNat, by obtain ⟨g, _⟩ := hG; omega⟩
 obtain ⟨Hn, rfl⟩ : ∃ n : Nat, H = n := ⟨H.toNat, by obtain ⟨_, g, _⟩ := hG; omega⟩
 simp only [cond_true, cond_false, Bool.not_true, Int.toNat_natCast]
 cases hc : decide (IntKind.wrap IntKind.i64 ((Wn : Int) * Hn) > 200) with
 | true => rfl
 | false =>
 have s0 := showOk_pic hG [] e1.it (by simp) (by omega)
 have s1 := showOk_pic hG e1.it e2.it (by omega) (by omega)
 have f := few_ok hG e2.it (by omega)
 simp only [List.length_nil] at s0
 simp only [pic_nil, pic_nil_len, show_pic hG, cond_false, cond_true, s0, s1, big_ok hG, big2_ok hG, f, beq_len, same_self]
theorem draw3 (X Y S W H : Int) (c : Nat) (e1 e2 e3 : In1) : xfun Try.prog E F9 8 10 [.agg [iv X, iv Y, iv S, iv W, iv H], .sl 0 0 3 c] [some ⟨.rlst [.va 1 0 e1.it.length 15, .va 2 0 e2.it.length 15, .va 3 0 e3.it.length 15], 22⟩, some ⟨.rrecs (i64s 15) e1.it, 39⟩, some ⟨.rrecs (i64s 15) e2.it, 39⟩, some ⟨.rrecs (i64s 15) e3.it, 39⟩] fin = some (.val (.bool true), []) := by
 rw [drawNf3]
 cases hn0 : decide ((e1.it.length : Int) > 5) with
 | true => rfl
 | false =>
 have hn0' := of_decide_eq_false hn0
 cases hn1 : decide ((e2.it.length : Int) > 5) with
 | true => rfl
 | false =>
 have hn1' := of_decide_eq_false hn1
 cases hn2 : decide ((e3.it.length : Int) > 5) with
 | true => rfl
 | false =>
 have hn2' := of_decide_eq_false hn2
 cases hg : decide (Pure.okG X Y S W H) with
 | false => rfl
 | true =>
 have hG := of_decide_eq_true hg
 obtain ⟨Wn, rfl⟩ : ∃ n : Nat, W = n := ⟨W.toNat, by obtain ⟨g, _⟩ := hG; omega⟩
 obtain ⟨Hn, rfl⟩ : ∃ n : Nat, H = n := ⟨H.toNat, by obtain ⟨_, g, _⟩ := hG; omega⟩
 simp only [cond_true, cond_false, Bool.not_true, Int.toNat_natCast]
 cases hc : decide (IntKind.wrap IntKind.i64 ((Wn : Int) * Hn) > 200) with
 | true => rfl
 | false =>
 have s0 := showOk_pic hG [] e1.it (by simp) (by omega)
 have s1 := showOk_pic hG e1.it e2.it (by omega) (by omega)
 have s2 := showOk_pic hG e2.it e3.it (by omega) (by omega)
 have f := few_ok hG e3.it (by omega)
 simp only [List.length_nil] at s0
 simp only [pic_nil, pic_nil_len, show_pic hG, cond_false, cond_true, s0, s1, s2, big_ok hG, big2_ok hG, f, beq_len, same_self]
theorem draw4 (X Y S W H : Int) (c : Nat) (e1 e2 e3 e4 : In1) : xfun Try.prog E F9 8 10 [.agg [iv X, iv Y, iv S, iv W, iv H], .sl 0 0 4 c] [some ⟨.rlst [.va 1 0 e1.it.length 15, .va 2 0 e2.it.length 15, .va 3 0 e3.it.length 15, .va 4 0 e4.it.length 15], 22⟩, some ⟨.rrecs (i64s 15) e1.it, 39⟩, some ⟨.rrecs (i64s 15) e2.it, 39⟩, some ⟨.rrecs (i64s 15) e3.it, 39⟩, some ⟨.rrecs (i64s 15) e4.it, 39⟩] fin = some (.val (.bool true), []) := by
 rw [drawNf4]
 cases hn0 : decide ((e1.it.length : Int) > 5) with
 | true => rfl
 | false =>
 have hn0' := of_decide_eq_false hn0
 cases hn1 : decide ((e2.it.length : Int) > 5) with
 | true => rfl
 | false =>
 have hn1' := of_decide_eq_false hn1
 cases hn2 : decide ((e3.it.length : Int) > 5) with
 | true => rfl
 | false =>
 have hn2' := of_decide_eq_false hn2
 cases hn3 : decide ((e4.it.length : Int) > 5) with
 | true => rfl
 | false =>
 have hn3' := of_decide_eq_false hn3
 cases hg : decide (Pure.okG X Y S W H) with
 | false => rfl
 | true =>
 have hG := of_decide_eq_true hg
 obtain ⟨Wn, rfl⟩ : ∃ n : Nat, W = n := ⟨W.toNat, by obtain ⟨g, _⟩ := hG; omega⟩
 obtain ⟨Hn, rfl⟩ : ∃ n : Nat, H = n := ⟨H.toNat, by obtain ⟨_, g, _⟩ := hG; omega⟩
 simp only [cond_true, cond_false, Bool.not_true, Int.toNat_natCast]
 cases hc : decide (IntKind.wrap IntKind.i64 ((Wn : Int) * Hn) > 200) with
 | true => rfl
 | false =>
 have s0 := showOk_pic hG [] e1.it (by simp) (by omega)
 have s1 := showOk_pic hG e1.it e2.it (by omega) (by omega)
 have s2 := showOk_pic hG e2.it e3.it (by omega) (by omega)
 have s3 := showOk_pic hG e3.it e4.it (by omega) (by omega)
 have f := few_ok hG e4.it (by omega)
 simp only [List.length_nil] at s0
 simp only [pic_nil, pic_nil_len, show_pic hG, cond_false, cond_true, s0, s1, s2, s3, big_ok hG, big2_ok hG, f, beq_len, same_self]
theorem draw5 (X Y S W H : Int) (c : Nat) (e1 e2 e3 e4 e5 : In1) : xfun Try.prog E F9 8 10 [.agg [iv X, iv Y, iv S, iv W, iv H], .sl 0 0 5 c] [some ⟨.rlst [.va 1 0 e1.it.length 15, .va 2 0 e2.it.length 15, .va 3 0 e3.it.length 15, .va 4 0 e4.it.length 15, .va 5 0 e5.it.length 15], 22⟩, some ⟨.rrecs (i64s 15) e1.it, 39⟩, some ⟨.rrecs (i64s 15) e2.it, 39⟩, some ⟨.rrecs (i64s 15) e3.it, 39⟩, some ⟨.rrecs (i64s 15) e4.it, 39⟩, some ⟨.rrecs (i64s 15) e5.it, 39⟩] fin = some (.val (.bool true), []) := by
 rw [drawNf5]
 cases hn0 : decide ((e1.it.length : Int) > 5) with
 | true => rfl
 | false =>
 have hn0' := of_decide_eq_false hn0
 cases hn1 : decide ((e2.it.length : Int) > 5) with
 | true => rfl
 | false =>
 have hn1' := of_decide_eq_false hn1
 cases hn2 : decide ((e3.it.length : Int) > 5) with
 | true => rfl
 | false =>
 have hn2' := of_decide_eq_false hn2
 cases hn3 : decide ((e4.it.length : Int) > 5) with
 | true => rfl
 | false =>
 have hn3' := of_decide_eq_false hn3
 cases hn4 : decide ((e5.it.length : Int) > 5) with
 | true => rfl
 | false =>
 have hn4' := of_decide_eq_false hn4
 cases hg : decide (Pure.okG X Y S W H) with
 | false => rfl
 | true =>
 have hG := of_decide_eq_true hg
 obtain ⟨Wn, rfl⟩ : ∃ n : Nat, W = n := ⟨W.toNat, by obtain ⟨g, _⟩ := hG; omega⟩
 obtain ⟨Hn, rfl⟩ : ∃ n : Nat, H = n := ⟨H.toNat, by obtain ⟨_, g, _⟩ := hG; omega⟩
 simp only [cond_true, cond_false, Bool.not_true, Int.toNat_natCast]
 cases hc : decide (IntKind.wrap IntKind.i64 ((Wn : Int) * Hn) > 200) with
 | true => rfl
 | false =>
 have s0 := showOk_pic hG [] e1.it (by simp) (by omega)
 have s1 := showOk_pic hG e1.it e2.it (by omega) (by omega)
 have s2 := showOk_pic hG e2.it e3.it (by omega) (by omega)
 have s3 := showOk_pic hG e3.it e4.it (by omega) (by omega)
 have s4 := showOk_pic hG e4.it e5.it (by omega) (by omega)
 have f := few_ok hG e5.it (by omega)
 simp only [List.length_nil] at s0
 simp only [pic_nil, pic_nil_len, show_pic hG, cond_false, cond_true, s0, s1, s2, s3, s4, big_ok hG, big2_ok hG, f, beq_len, same_self]
theorem draw_many (X Y S W H : Int) (n : Nat) (hn : 5 < n) : xfun Try.prog E F9 8 10 [.agg [iv X, iv Y, iv S, iv W, iv H], .xs 0 n] [] fin = some (.val (.bool true), []) := by
 rw [drawNfM]
 have h : decide ((n : Int) > 5) = true := decide_eq_true (by omega)
 simp only [h, cond_true]
theorem TilesDraw_any (X Y S W H : Int) (A : Option Addr) (c : Nat) (xs : List Value) (w : World) (hc : xs.length ≤ c) (hin : InAt w A xs)
  (hr : ∀ x ∈ xs, ∃ (A' : Option Addr) (c' : Nat) (ys : List (List Value)), x = .slice A' ys.length c' ∧ ys.length ≤ c' ∧ Go.Proofs.Ytppklhfiajjhmaa.Reads.Rows w A' 15 (List.replicate 15 isI64) ys) :
  Calls Try.prog 10 #[.agg #[.int .i64 X, .int .i64 Y, .int .i64 S, .int .i64 W, .int .i64 H], .slice A xs.length c] w (IsTrue w) := by
 obtain ⟨es, rfl, he⟩ := in1s xs hr
 rw [List.length_map]
 have hg : ∀ σ : Sg, RV σ (.agg [iv X, iv Y, iv S, iv W, iv H]) (.agg #[.int .i64 X, .int .i64 Y, .int .i64 S, .int .i64 W, .int .i64 H]) := by
  intro σ; simp only [RV]; exact ⟨_, RVs.vals [.int .i64 X, .int .i64 Y, .int .i64 S, .int .i64 W, .int .i64 H], rfl⟩
 have two : ∀ {σ : Sg} {a : MV} {u : Value}, RV σ a u → RVs σ [.agg [iv X, iv Y, iv S, iv W, iv H], a] [.agg #[.int .i64 X, .int .i64 Y, .int .i64 S, .int .i64 W, .int .i64 H], u] := by
  intro σ a u h
  simp only [RVs]
  exact ⟨_, _, rfl, hg σ, _, _, rfl, h, rfl⟩
 have one : ∀ (hne : es ≠ []), RV (sgOf w (fun _ => .nilIface) (inL A es)) (.sl 0 0 es.length c) (.slice A es.length c) := fun hne => sl_in hin hne
 match es, hin, he, one with
 | [], _, _, _ => exact any_of (draw0 X Y S W H) (σ := none0 fun _ => .nilIface) (two (by simp only [RV]; exact ⟨A, c, rfl⟩)) (rm_nil w _)
 | [e1], hin, he, one => exact any_of (draw1 X Y S W H c e1) (two (one (by simp))) (inL_rm hin he _)
 | [e1, e2], hin, he, one => exact any_of (draw2 X Y S W H c e1 e2) (two (one (by simp))) (inL_rm hin he _)
 | [e1, e2, e3], hin, he, one => exact any_of (draw3 X Y S W H c e1 e2 e3) (two (one (by simp))) (inL_rm hin he _)
 | [e1, e2, e3, e4], hin, he, one => exact any_of (draw4 X Y S W H c e1 e2 e3 e4) (two (one (by simp))) (inL_rm hin he _)
 | [e1, e2, e3, e4, e5], hin, he, one => exact any_of (draw5 X Y S W H c e1 e2 e3 e4 e5) (two (one (by simp))) (inL_rm hin he _)
 | e1 :: e2 :: e3 :: e4 :: e5 :: e6 :: es, _, _, _ =>
  have hm := draw_many X Y S W H (e1 :: e2 :: e3 :: e4 :: e5 :: e6 :: es).length (by simp)
  refine any_of hm (σ := none0 fun _ => .slice A (e1 :: e2 :: e3 :: e4 :: e5 :: e6 :: es).length c) (two ?_) (rm_nil w _)
  simp only [RV]
  exact ⟨rfl, A, c, rfl⟩
end Go.Proofs.Ytppklhfiajjhmaa.Ti
end
