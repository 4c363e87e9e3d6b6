/- What is proved: in plain numbers, what the layer drop answers. Conditions: none but those in each statement. -/
import Derived.Test.YtokdpnpldoaepaaDrB
namespace Go.Proofs.Ytokdpnpldoaepaa.Dr
open Go Go.RowKit Go.Proofs.Ytokdpnpldoaepaa.X Go.Proofs.Ytokdpnpldoaepaa.Ac
open Go.Proofs.Ytokdpnpldoaepaa.Hg (O5 restN ok5 z5 solveB_is Fit OFit ok5_fit rest_eq F_five)
set_option linter.unusedVariables false
set_option linter.unusedSimpArgs false
structure DFits (i : DIn) : Prop where
  base : Fit i.base
  around : Fit i.around
  want : Fit i.want
  stat : Fit i.stat
  start : OFit (i.start i.hA i.hN)
theorem dfits_of {i : DIn} (h : i.fits = true) : DFits i := by
  unfold DIn.fits at h
  simp only [Bool.and_eq_true] at h
  exact ⟨fits_t h.1, fits_t h.2.1, fits_t h.2.2.1, fits_t h.2.2.2.1, ok5_fit h.2.2.2.2⟩
theorem solve_is (i : DIn) (h : i.solve.2 = true) : DFits i ∧ ∃ sA sN, i.solve.1 = i.sol sA sN ∧ ok5 (i.sol sA sN) = true ∧ ((sA = i.hA ∧ sN = i.hN ∧ (i.sol sA sN).w ≤ i.most ∧ i.least ≤ (i.sol sA sN).w) ∨ (sA = false ∧ sN = i.most ∧ i.least ≤ (i.sol sA sN).w) ∨ (sA = false ∧ sN = i.least)) := by
  unfold DIn.solve at h ⊢
  cases hf : i.fits with
  | false => rw [hf] at h; simp at h
  | true => rw [hf] at h; exact ⟨dfits_of hf, solveB_is h⟩
theorem said_w (i : DIn) (o : O5) : (i.said o).w = o.w := by
  unfold DIn.said
  cases i.mA <;> cases i.qA <;> rfl
theorem sol_w (i : DIn) (sN : Int) : (i.sol false sN).w = sN := by
  unfold DIn.sol DIn.opn DIn.op2 DIn.op1
  cases i.tA <;> cases i.bA <;> first | rfl | exact said_w i _
theorem said_sum {i : DIn} {o : O5} (hb : Fit i.base) (ha : Fit i.around) (ho : OFit o) (hp : i.mA = true → o.p = 0) (hq : i.qA = true → o.q = 0) : (i.said o).sum + i.around = i.base := by
  have e := rest_eq hb ha ho
  obtain ⟨b0, b1⟩ := hb
  obtain ⟨a0, a1⟩ := ha
  obtain ⟨⟨l0, l1⟩, ⟨p0, p1⟩, ⟨w0, w1⟩, ⟨q0, q1⟩, ⟨r0, r1⟩⟩ := ho
  unfold DIn.said DIn.rest
  rw [e]
  generalize hr : i.base - i.around - o.l - o.p - o.w - o.q - o.r = rest
  have e1 : w6 (rest - rest / 2) = rest - rest / 2 := w6_id (by omega) (by omega)
  have e3 : w6 (o.r + rest) = o.r + rest := w6_id (by omega) (by omega)
  rw [e1, e3]
  cases h1 : i.mA <;> cases h2 : i.qA <;> simp only [h1, h2, Bool.true_and, Bool.false_and, Bool.and_false, cond_true, cond_false, forall_const, O5.sum] at hp hq ⊢ <;> omega
theorem opn_sum {i : DIn} {sA : Bool} {o : O5} (hb : Fit i.base) (ha : Fit i.around) (hw' : Fit i.want) (hs : Fit i.stat) (ho : OFit o) (hl : i.tA = true → o.l = 0) (hr : i.bA = true → o.r = 0) (hw : sA = true → o.w = 0)
    (hp : i.mA = true → o.p = 0) (hq : i.qA = true → o.q = 0) : (i.opn sA (i.op2 (i.op1 sA o))).sum + i.around = i.base := by
  have h2 : OFit (i.op2 (i.op1 sA o)) := by
    unfold DIn.op2 DIn.op1
    obtain ⟨f1, f2, f3, f4, f5⟩ := ho
    cases sA <;> cases i.tA <;> cases i.bA <;> simp only [Bool.true_and, Bool.false_and, Bool.and_true, Bool.and_false, Bool.or_true, Bool.or_false, cond_true, cond_false] <;> constructor <;> assumption
  cases hc : (!i.tA && !sA && !i.bA) with
  | true =>
    have e1 : i.opn sA (i.op2 (i.op1 sA o)) = i.said (i.op2 (i.op1 sA o)) := by unfold DIn.opn; rw [hc]; rfl
    have e2 : i.op2 (i.op1 sA o) = o := by
      unfold DIn.op2 DIn.op1
      revert hc
      cases sA <;> cases i.tA <;> cases i.bA <;> intro hc <;> first | rfl | exact absurd hc (by decide)
    rw [e1, e2]
    exact said_sum hb ha ho hp hq
  | false =>
    have e := rest_eq hb ha h2
    unfold DIn.opn DIn.rest
    rw [e, hc]
    clear e h2
    unfold DIn.op2 DIn.op1
    revert hc hl hr hw
    cases sA <;> cases i.tA <;> cases i.bA <;> simp only [Bool.true_and, Bool.false_and, Bool.and_true, Bool.and_false, Bool.or_true, Bool.or_false, Bool.true_or, Bool.false_or, Bool.not_true, Bool.not_false, cond_true, cond_false, O5.sum, Bool.false_eq_true, forall_const, reduceCtorEq, false_implies] <;> intros <;> omega
theorem start_fit {i : DIn} (h : DFits i) {sA : Bool} {sN : Int} (hk : ok5 (i.sol sA sN) = true) : OFit (i.start sA sN) := by
  obtain ⟨f1, f2, f3, f4, f5⟩ := h.start
  refine ⟨f1, f2, ?_, f4, f5⟩
  cases sA with
  | true => exact ⟨by simp [DIn.start, orV], by simp [DIn.start, orV]⟩
  | false => have := (ok5_fit hk).w; rw [sol_w] at this; exact this
theorem sol_sum {i : DIn} (h : DFits i) {sA : Bool} {sN : Int} (hk : ok5 (i.sol sA sN) = true) : (i.sol sA sN).sum + i.around = i.base := by
  have hf := start_fit h hk
  clear hk
  unfold DIn.sol
  refine opn_sum h.base h.around h.want h.stat hf ?_ ?_ ?_ ?_ ?_ <;> intro hh <;> simp [DIn.start, hh, orV]
theorem DropSums_x (i : DIn) : xfun Try.prog (EX Try.prog) L1 6 7 [i.mv] [] fin = some (B true, []) := by
  refine (x7 i).trans ?_
  by_cases hlm : i.least > i.most
  · simp [hlm]
  · cases hk : i.solve.2 with
    | false => simp [hlm, hk]
    | true =>
      obtain ⟨h, sA, sN, e, ho, hc⟩ := solve_is i hk
      have s := sol_sum h ho
      obtain ⟨⟨l0, l1⟩, ⟨p0, p1⟩, ⟨w0, w1⟩, ⟨q0, q1⟩, ⟨r0, r1⟩⟩ := ok5_fit ho
      obtain ⟨a0, a1⟩ := h.around
      have hb : i.least ≤ (i.sol sA sN).w ∧ (i.sol sA sN).w ≤ i.most := by
        rcases hc with ⟨_, _, h1, h2⟩ | ⟨rfl, rfl, h2⟩ | ⟨rfl, rfl⟩
        · exact ⟨h2, h1⟩
        · exact ⟨h2, by rw [sol_w]; omega⟩
        · rw [sol_w]; omega
      have n1 : (decide (i.least > i.most)) = false := by simpa using hlm
      have n2 : (decide ((i.sol sA sN).w ≥ i.least)) = true := by simpa using hb.1
      have n3 : (decide ((i.sol sA sN).w ≤ i.most)) = true := by simpa using hb.2
      rw [e]
      generalize i.sol sA sN = o at *
      unfold O5.sum at s
      have e1 : IntKind.wrap IntKind.i64 (IntKind.wrap IntKind.i64 (IntKind.wrap IntKind.i64 (IntKind.wrap IntKind.i64 (IntKind.wrap IntKind.i64 (o.l + o.p) + i.around) + o.w) + o.q) + o.r) = i.base := by
        rw [wrap_id (n := o.l + o.p) (by omega) (by omega), wrap_id (n := o.l + o.p + i.around) (by omega) (by omega), wrap_id (n := o.l + o.p + i.around + o.w) (by omega) (by omega), wrap_id (n := o.l + o.p + i.around + o.w + o.q) (by omega) (by omega), wrap_id (by omega) (by omega)]
        omega
      simp only [hk, e1, n1, n2, n3, Bool.not_true, cond_false, cond_true, beq_self_eq_true]
def DIn.with (i : DIn) (want : Int) : DIn := ⟨i.base, i.tA, i.tN, i.mA, i.mN, i.hA, i.hN, i.qA, i.qN, i.bA, i.bN, i.around, want, i.stat, i.least, i.most⟩
theorem known_same (i : DIn) (want : Int) (hk : known i.tA i.hA i.bA = true) (h1 : fitsB i.want = true) (h2 : fitsB want = true) : (i.with want).solve = i.solve := by
  have s0 : ∀ n, (i.with want).sol false n = i.sol false n := fun n => rfl
  have s1 : ∀ n, (i.with want).sol i.hA n = i.sol i.hA n := by
    intro n
    cases hA : i.hA with
    | false => exact s0 n
    | true =>
      have : (i.tA || i.bA) = false := by
        unfold known at hk
        rw [hA] at hk
        revert hk
        cases i.tA <;> cases i.bA <;> decide
      have e : ∀ o, (i.with want).op1 true o = i.op1 true o := by
        intro o
        show (bif true && (i.tA || i.bA) then _ else _) = (bif true && (i.tA || i.bA) then _ else _)
        rw [this]; rfl
      unfold DIn.sol
      rw [e]; rfl
  have f : (i.with want).fits = i.fits := by
    unfold DIn.fits
    show (fitsB i.base && (fitsB i.around && (fitsB want && (fitsB i.stat && ok5 (i.start i.hA i.hN))))) = _
    rw [h1, h2]
  unfold DIn.solve
  rw [f]
  have g : solveB (i.with want).sol O5.w ok5 z5 (i.with want).hA (i.with want).hN (i.with want).least (i.with want).most = solveB i.sol O5.w ok5 z5 i.hA i.hN i.least i.most := by
    unfold solveB
    show (let a := (i.with want).sol i.hA i.hN; _) = _
    simp only [s0]
    have := s1 i.hN
    show _ = _
    rw [show (i.with want).sol (i.with want).hA (i.with want).hN = i.sol i.hA i.hN from this]
    rfl
  rw [g]
theorem DropKnown_x (i : DIn) (want : Int) : xfun Try.prog (EX Try.prog) L1 6 8 [i.mv, I want] [] fin = some (B true, []) := by
  refine (x8 i want).trans ?_
  have E := known_same i want
  unfold DIn.with at E
  generalize DIn.solve ⟨i.base, i.tA, i.tN, i.mA, i.mN, i.hA, i.hN, i.qA, i.qN, i.bA, i.bN, i.around, want, i.stat, i.least, i.most⟩ = s1 at *
  generalize DIn.solve i = s2 at *
  by_cases c1 : want < -1125899906842624
  · simp only [c1, decide_true, cond_true, known]
    cases i.hA <;> cases i.tA <;> cases i.bA <;> rfl
  by_cases c2 : want > 1125899906842624
  · simp only [c1, c2, decide_true, decide_false, cond_true, cond_false, known]
    cases i.hA <;> cases i.tA <;> cases i.bA <;> rfl
  by_cases c3 : i.want < -1125899906842624
  · simp only [c1, c2, c3, decide_true, decide_false, cond_true, cond_false, known]
    cases i.hA <;> cases i.tA <;> cases i.bA <;> rfl
  by_cases c4 : i.want > 1125899906842624
  · simp only [c1, c2, c3, c4, decide_true, decide_false, cond_true, cond_false, known]
    cases i.hA <;> cases i.tA <;> cases i.bA <;> rfl
  have f1 : fitsB i.want = true := by unfold fitsB; simp only [Bool.and_eq_true, decide_eq_true_eq]; omega
  have f2 : fitsB want = true := by unfold fitsB; simp only [Bool.and_eq_true, decide_eq_true_eq]; omega
  simp only [c1, c2, c3, c4, decide_false, cond_false]
  cases hk : known i.tA i.hA i.bA with
  | true =>
    have e := E hk f1 f2
    subst e
    revert hk
    unfold known
    simp only [beq_self_eq_true, Bool.and_true, cond_true]
    cases i.hA <;> cases i.tA <;> cases i.bA <;> intro hk <;> first | rfl | exact absurd hk (by decide)
  | false =>
    revert hk
    unfold known
    cases i.hA <;> cases i.tA <;> cases i.bA <;> intro hk <;> first | rfl | exact absurd hk (by decide)
theorem static_facts (j : DIn) (ht : j.tA = true) (hb : j.bA = true) (hk : j.solve.2 = true) : j.solve.1.l = j.stat ∧ j.solve.1.p = orV j.mA j.mN 0 := by
  obtain ⟨h, sA, sN, e, ho, hc⟩ := solve_is j hk
  rw [e]
  unfold DIn.sol DIn.opn DIn.op2 DIn.op1 DIn.start
  rw [ht, hb]
  cases sA <;> exact ⟨rfl, rfl⟩
theorem DropStatic_x (i : DIn) : xfun Try.prog (EX Try.prog) L1 6 9 [i.mv] [] fin = some (B true, []) := by
  refine (x9 i).trans ?_
  have F := static_facts ⟨i.base, true, i.tN, i.mA, i.mN, i.hA, i.hN, i.qA, i.qN, true, i.bN, i.around, i.want, i.stat, i.least, i.most⟩ rfl rfl
  dsimp only at F
  generalize DIn.solve ⟨i.base, true, i.tN, i.mA, i.mN, i.hA, i.hN, i.qA, i.qN, true, i.bN, i.around, i.want, i.stat, i.least, i.most⟩ = s at F ⊢
  obtain ⟨o, k⟩ := s
  cases k with
  | false => rfl
  | true =>
    obtain ⟨f1, f2⟩ := F rfl
    dsimp only at f1 f2 ⊢
    rw [f1, f2]
    cases i.mA <;> simp [orV]
end Go.Proofs.Ytokdpnpldoaepaa.Dr
