/- What is proved: the statements of the layer across, on the small memory. Conditions: none but those in each statement. -/
import Derived.Test.YtokdpnpldoaepaaAcG
namespace Go.Proofs.Ytokdpnpldoaepaa.Ac
open Go Go.RowKit Go.Proofs.Ytokdpnpldoaepaa.X
set_option linter.unusedVariables false
set_option linter.unusedSimpArgs false
theorem sol_w (i : AIn) (sN : Int) : (i.sol false sN).2.1 = sN := rfl
theorem sol_sum {i : AIn} (h : AFits i) {sA : Bool} {sN : Int} (hk : ok3 (i.sol sA sN) = true) :
    (i.sol sA sN).1 + i.around + (i.sol sA sN).2.1 + (i.sol sA sN).2.2 = i.base ∧ -1125899906842624 ≤ (i.sol sA sN).1 ∧ (i.sol sA sN).1 ≤ 1125899906842624 ∧ -1125899906842624 ≤ (i.sol sA sN).2.1 ∧ (i.sol sA sN).2.1 ≤ 1125899906842624 ∧ -1125899906842624 ≤ (i.sol sA sN).2.2 ∧ (i.sol sA sN).2.2 ≤ 1125899906842624 := by
  have hh := h
  obtain ⟨b0, b1, r0, r1, l0, l1, w0, w1, g0, g1⟩ := hh
  unfold ok3 at hk
  simp only [Bool.and_eq_true] at hk
  obtain ⟨k1, k2, k3⟩ := hk
  have f1 := fits_t k1; have f2 := fits_t k2; have f3 := fits_t k3
  refine ⟨?_, f1.1, f1.2, f2.1, f2.2, f3.1, f3.2⟩
  clear k1 k2 k3
  cases sA with
  | true =>
    simp only [AIn.sol, cond_true] at f1 f2 f3 ⊢
    rw [l2_eq h] at f2 ⊢
    omega
  | false =>
    simp only [AIn.sol, cond_false] at f1 f2 f3 ⊢
    unfold AIn.marg at f1 f3 ⊢
    rw [l3_eq h f2.1 f2.2, l1_eq h (by omega) (by omega)] at f1 f3 ⊢
    generalize hr : i.base - i.around - sN = rest at f1 f3 ⊢
    by_cases hov : rest - orV i.lA i.lN 0 - orV i.rA i.rN 0 < 0
    · simp only [hov, decide_true, Bool.not_true, Bool.false_and, Bool.false_or, Bool.true_or, Bool.and_true, cond_false] at f1 f3 ⊢
      rw [w6_id (n := rest - orV i.rA i.rN 0) (by omega) (by omega), w6_id (n := rest - orV i.lA i.lN 0) (by omega) (by omega)] at f1 f3 ⊢
      cases hd : i.rtl <;> simp only [cond_true, cond_false] <;> omega
    · simp only [hov, decide_false, Bool.not_false, Bool.true_and, Bool.false_or] at f1 f3 ⊢
      rw [w6_id (n := rest - orV i.rA i.rN 0) (by omega) (by omega), w6_id (n := rest - orV i.lA i.lN 0) (by omega) (by omega), w6_id (n := rest - rest / 2) (by omega) (by omega)] at f1 f3 ⊢
      generalize (i.lA && i.rA) = c1
      generalize (i.lA || i.rtl && !i.rA) = c2
      cases c1 <;> simp only [cond_true, cond_false]
      · cases c2 <;> simp only [cond_true, cond_false] <;> omega
      · omega
theorem AcrossSums_x (i : AIn) : xfun Try.prog (EX Try.prog) L1 6 4 [i.mv] [] fin = some (B true, []) := by
  refine (x4 i).trans ?_
  by_cases hlm : i.least > i.most
  · simp [hlm]
  · cases hk : i.solve.2 with
    | false => simp [hlm, hk]
    | true =>
      obtain ⟨h, sA, sN, e, ho, hc⟩ := solve_is i hk
      obtain ⟨s, a0, a1, b0, b1, c0, c1⟩ := sol_sum h ho
      have hb : i.least ≤ (i.sol sA sN).2.1 ∧ (i.sol sA sN).2.1 ≤ i.most := by
        rcases hc with ⟨_, _, h1, h2⟩ | ⟨rfl, rfl, h2⟩ | ⟨rfl, rfl⟩
        · exact ⟨h2, h1⟩
        · exact ⟨h2, by rw [sol_w]; omega⟩
        · rw [sol_w]; omega
      have hr0 := h.r0
      have hr1 := h.r1
      have e1 : IntKind.wrap IntKind.i64 (IntKind.wrap IntKind.i64 (IntKind.wrap IntKind.i64 ((i.sol sA sN).1 + i.around) + (i.sol sA sN).2.1) + (i.sol sA sN).2.2) = i.base := by
        rw [wrap_id (n := (i.sol sA sN).1 + i.around) (by omega) (by omega), wrap_id (n := (i.sol sA sN).1 + i.around + _) (by omega) (by omega), wrap_id (by omega) (by omega)]
        exact s
      have n1 : (decide (i.least > i.most)) = false := by simpa using hlm
      have n2 : (decide ((i.sol sA sN).2.1 ≥ i.least)) = true := by simpa using hb.1
      have n3 : (decide ((i.sol sA sN).2.1 ≤ i.most)) = true := by simpa using hb.2
      have hk' : AIn.solve { base := i.base, lA := i.lA, lN := i.lN, wA := i.wA, wN := i.wN, rA := i.rA, rN := i.rN, around := i.around, rtl := i.rtl, least := i.least, most := i.most } = i.solve := rfl
      simp only [hk', hk, e, e1, n1, n2, n3, Bool.not_true, cond_false, cond_true, beq_self_eq_true]
theorem sol_keeps {i : AIn} {sA : Bool} {sN : Int} (h : AFits i) (hk : ok3 (i.sol sA sN) = true) : (i.lA = true ∨ (i.sol sA sN).1 = i.lN ∨ i.rtl = true) ∧ (i.rA = true ∨ (i.sol sA sN).2.2 = i.rN ∨ i.rtl = false) := by
  cases sA with
  | true =>
    simp only [AIn.sol, cond_true]
    cases i.lA <;> cases i.rA <;> simp [orV]
  | false =>
    simp only [AIn.sol, cond_false]
    unfold AIn.marg
    generalize decide (i.l3 sN (orV i.lA i.lN 0) (orV i.rA i.rN 0) < 0) = q
    cases i.lA <;> cases i.rA <;> cases i.rtl <;> cases q <;> simp [orV]
theorem AcrossKeeps_x (i : AIn) : xfun Try.prog (EX Try.prog) L1 6 5 [i.mv] [] fin = some (B true, []) := by
  refine (x5 i).trans ?_
  have hk' : AIn.solve { base := i.base, lA := i.lA, lN := i.lN, wA := i.wA, wN := i.wN, rA := i.rA, rN := i.rN, around := i.around, rtl := i.rtl, least := i.least, most := i.most } = i.solve := rfl
  cases hk : i.solve.2 with
  | false => rfl
  | true =>
    obtain ⟨h, sA, sN, e, ho, hc⟩ := solve_is i hk
    obtain ⟨c1, c2⟩ := sol_keeps h ho
    have c3 : i.wA = true ∨ (i.sol sA sN).2.1 = i.wN ∨ (i.sol sA sN).2.1 = i.least ∨ (i.sol sA sN).2.1 = i.most := by
      rcases hc with ⟨rfl, rfl, _, _⟩ | ⟨rfl, rfl, _⟩ | ⟨rfl, rfl⟩
      · cases hw : i.wA with
        | true => exact .inl rfl
        | false => exact .inr (.inl (by rw [sol_w]))
      · exact .inr (.inr (.inr (sol_w _ _)))
      · exact .inr (.inr (.inl (sol_w _ _)))
    rw [e]
    clear hc ho e hk hk'
    obtain ⟨p1, hp1⟩ : ∃ p, ((i.sol sA sN).2.1 == i.wN) = p := ⟨_, rfl⟩
    obtain ⟨p2, hp2⟩ : ∃ p, ((i.sol sA sN).2.1 == i.least) = p := ⟨_, rfl⟩
    obtain ⟨p3, hp3⟩ : ∃ p, ((i.sol sA sN).2.1 == i.most) = p := ⟨_, rfl⟩
    obtain ⟨p4, hp4⟩ : ∃ p, ((i.sol sA sN).1 == i.lN) = p := ⟨_, rfl⟩
    obtain ⟨p5, hp5⟩ : ∃ p, ((i.sol sA sN).2.2 == i.rN) = p := ⟨_, rfl⟩
    have d1 : (i.lA || (p4 || i.rtl)) = true := by rw [← hp4]; simpa using c1
    have d2 : (i.rA || (p5 || !i.rtl)) = true := by rw [← hp5]; simpa using c2
    have d3 : (i.wA || (p1 || (p2 || p3))) = true := by rw [← hp1, ← hp2, ← hp3]; simpa using c3
    simp only [hp1, hp2, hp3, hp4, hp5, Bool.not_true, cond_false]
    clear hp1 hp2 hp3 hp4 hp5 c1 c2 c3 h
    revert d1 d2 d3
    generalize i.lA = lA
    generalize i.rA = rA
    generalize i.wA = wA
    generalize i.rtl = rtl
    cases wA <;> cases p1 <;> cases p2 <;> cases p3 <;> simp only [cond_true, cond_false, Bool.false_or, Bool.true_or, Bool.or_true, Bool.or_false, Bool.false_eq_true, false_implies, true_implies, implies_true]
    all_goals
      cases lA <;> cases p4 <;> cases rtl <;> cases rA <;> cases p5 <;> simp
end Go.Proofs.Ytokdpnpldoaepaa.Ac
