/- What is proved: a function that reads one block and answers plain values, as a contract. Conditions: none but those in each statement. -/
import Derived.Test.YtppklhfiajjhmaaZRasterShiftsY12
namespace Go.Proofs.Ytppklhfiajjhmaa.Y
open Go Go.RowKit
set_option linter.unusedVariables false
set_option linter.unusedSimpArgs false
/-- Places are hidden. -/
def hide : MV → MV
  | .val v => .val v
  | _ => .any
theorem hide_ok {σ τ : Sg} : ∀ (l : List MV) (us : List Value), l.all MV.atom = true → RVs σ l us → RVs τ (l.map hide) us
  | [], us, _, e => by simp only [RVs, List.map_nil] at e ⊢; exact e
  | x :: l, us, h, e => by
    simp only [List.all_cons, Bool.and_eq_true] at h
    simp only [RVs, List.map_cons] at e ⊢
    obtain ⟨u, r, e1, e2, e3⟩ := e
    refine ⟨u, r, e1, ?_, hide_ok l r h.2 e3⟩
    have ha := RV.atom e2 h.1
    cases x with
    | val v => simp only [hide, RV] at e2 ⊢; exact e2
    | _ => simp only [hide, RV]; exact ha
/-- A contract of a function that reads the block its first argument lies in. -/
abbrev toR1 (F : List MV → Nat → Nat → List MV → Option MV) : List MV → (Nat → Option Blk) → KV → Option Out := fun args rd k => match args with
  | .ptr b o :: ps => match rd b with
    | some kb => bif kb.cells.all MV.atom then (match F (kb.cells.map hide) kb.ty o ps with
      | some v => k v
      | none => none) else none
    | none => none
  | _ => none
theorem Q_one {P : Program} {X : Env} (hS : Stable X) {f : Nat} {F : List MV → Nat → Nat → List MV → Option MV}
    (h : ∀ cells ty o ps v, F cells ty o ps = some v → (∃ us, pls ps = some us) ∧ (∃ u, pl v = some u) ∧ XF P X f (.ptr 0 o :: ps) [some ⟨.rlst cells, ty⟩] (fun v1 _ => v1 = v)) : QOk P X f (toR1 F) := by
  intro args rd k r hG
  unfold toR1 at hG
  split at hG
  · rename_i b o ps
    split at hG
    · rename_i kb hb
      cases ha : kb.cells.all MV.atom with
      | false => rw [ha] at hG; simp at hG
      | true =>
      rw [ha] at hG
      simp only [cond_true] at hG
      split at hG
      · rename_i v hv
        obtain ⟨⟨us', hps⟩, ⟨u, hu⟩, hXF⟩ := h _ _ _ _ _ hv
        refine ⟨v, hG, fun base w0 σ us w hX hbel hbase hus hr => ?_⟩
        simp only [RVs] at hus
        obtain ⟨u0, usr, rfl, h0, h1⟩ := hus
        obtain ⟨g, hg, rfl⟩ := h0.ptr_inv
        have e1 := (pls_ok ps us' hps usr).1 h1
        subst e1
        obtain ⟨pre, cs, rest, d1, d2, d3, d4, d5⟩ := hr b kb (by simp [refsL, refs]) hb g hg
        have hlt : g < w.heap.size := (Array.getElem?_eq_some_iff.1 d1).1
        let σ0 : Sg := ⟨fun i => if i = 0 then some g else none, fun _ => (cs ++ rest).length, σ.x, fun _ => σ.off b⟩
        have s0 : σ0 0 = some g := rfl
        have sn : ∀ i x, σ0 i = some x → i = 0 ∧ x = g := by
          intro i x hx
          have hx' : (if i = 0 then some g else none) = some x := hx
          split at hx'
          · rename_i e; injection hx' with hx'; exact ⟨e, hx'.symm⟩
          · cases hx'
        let B' : Bs := ⟨w.heap.size, fun _ => False⟩
        have nOwn : ¬ Own B' g := by rintro (hh | hh); exact absurd hlt (Nat.not_lt.2 hh); exact hh
        have hM : RM B' w σ0 [some ⟨.rlst (kb.cells.map hide), kb.ty⟩] w := by
          refine ⟨fun i kk x hk hx => ?_, fun i j x ki kj hi hj r1 r2 n1 n2 h1 h2 => ?_, fun i x hx => ?_, fun i x kk hk hx hro => ?_, fun i x kk hk hx _ _ => ?_, Bel.refl _ _, Nat.le_refl _⟩
          · obtain ⟨rfl, rfl⟩ := sn i x hx
            simp only [List.getElem?_cons_zero, Option.some.injEq] at hk
            subst hk
            exact ⟨pre, cs, rest, d1, hide_ok _ _ ha d2, rfl, d4, fun h => by cases h⟩
          · obtain ⟨rfl, _⟩ := sn i x h1
            obtain ⟨rfl, _⟩ := sn j x h2
            rfl
          · obtain ⟨rfl, _⟩ := sn i x hx
            exact ⟨_, rfl⟩
          · obtain ⟨rfl, _⟩ := sn i x hx
            simp only [List.getElem?_cons_zero, Option.some.injEq] at hk
            subst hk
            cases hro
          · obtain ⟨_, rfl⟩ := sn i x hx
            exact nOwn
        have hX' : X B' w σ0.x := hS base w0 B' w σ.x hX hbel (by rintro y (hh | hh); exact .inl (Nat.le_trans hbase hh); exact hh.elim) rfl
        refine Calls.mono (hXF B' w σ0 _ w hX' (by simp only [RVs]; exact ⟨_, _, rfl, by simp only [RV]; exact ⟨g, s0, rfl⟩, (pls_ok ps _ hps _).2 rfl⟩) hM) ?_
        rintro e w' ⟨v1, m1, σ1, u1, rfl, rfl, _, h3, h4⟩
        have e2 := (pl_ok v1 u hu u1).1 h3
        subst e2
        exact ⟨u1, rfl, (pl_ok v1 u1 hu u1).2 rfl, h4.bel.to⟩
      · cases hG
    · cases hG
  · cases hG
/-- Such a function, carried out. -/
def runF (P : Program) (E : Eqs) (C : Ctx) (n f : Nat) : List MV → Nat → Nat → List MV → Option MV := fun cells ty o ps => match pls ps with
  | some _ => match xfun P E C n f (.ptr 0 o :: ps) [some ⟨.rlst cells, ty⟩] fin with
    | some (v, _) => match pl v with
      | some _ => some v
      | none => none
    | none => none
  | none => none
theorem Q_run {P : Program} {E : Eqs} {C : Ctx} (hE : EqOk P E) (hC : COk P C) (hm : P.follows .mixedOrders = true) (hS : Stable C.env) (n f : Nat) : QOk P C.env f (toR1 (runF P E C n f)) := by
  refine Q_one hS (fun cells ty o ps v h => ?_)
  unfold runF at h
  split at h
  · rename_i us hus
    split at h
    · rename_i v' m' hx
      split at h
      · rename_i u hu
        injection h with h; subst h
        refine ⟨⟨us, hus⟩, ⟨u, hu⟩, fun base w0 σ us w hX hu hM => ?_⟩
        refine Calls.mono (xfun_ok hE hC hm hx hX hu hM) ?_
        rintro e w' ⟨v1, m1, σ1, u1, h1, h2, h3, h4, h5⟩
        simp only [Option.some.injEq, Prod.mk.injEq] at h1
        exact ⟨v1, m1, σ1, u1, h1.1, h2, h3, h4, h5⟩
      · cases h
    · cases h
  · cases h
theorem true_stable : Stable (fun _ _ _ => True) := fun _ _ _ _ _ _ _ _ _ => trivial
end Go.Proofs.Ytppklhfiajjhmaa.Y
