/- What is proved: in plain numbers, what the statements of the layer across say. Conditions: none but those in each statement. -/
import Derived.Test.YtokdpnpldoaepaaAcF
namespace Go.Proofs.Ytokdpnpldoaepaa.Ac
open Go Go.RowKit Go.Proofs.Ytokdpnpldoaepaa.X
set_option linter.unusedVariables false
set_option linter.unusedSimpArgs false
theorem fits_t {n : Int} (h : fitsB n = true) : -1125899906842624 ≤ n ∧ n ≤ 1125899906842624 := by
  unfold fitsB at h; simpa using h
theorem fits_f {n : Int} (h : fitsB n = false) : n < -1125899906842624 ∨ 1125899906842624 < n := by
  unfold fitsB at h
  rw [Bool.and_eq_false_iff] at h
  simp only [decide_eq_false_iff_not] at h
  omega
theorem w6_id {n : Int} (h0 : -9223372036854775808 ≤ n) (h1 : n ≤ 9223372036854775807) : w6 n = n := wrap_id h0 h1
structure AFits (i : AIn) : Prop where
  b0 : -1125899906842624 ≤ i.base
  b1 : i.base ≤ 1125899906842624
  r0 : -1125899906842624 ≤ i.around
  r1 : i.around ≤ 1125899906842624
  l0 : -1125899906842624 ≤ orV i.lA i.lN 0
  l1 : orV i.lA i.lN 0 ≤ 1125899906842624
  w0 : -1125899906842624 ≤ orV i.wA i.wN 0
  w1 : orV i.wA i.wN 0 ≤ 1125899906842624
  g0 : -1125899906842624 ≤ orV i.rA i.rN 0
  g1 : orV i.rA i.rN 0 ≤ 1125899906842624
theorem fits_of {i : AIn} (h : i.fits = true) : AFits i := by
  unfold AIn.fits at h
  simp only [Bool.and_eq_true] at h
  obtain ⟨h1, h2, h3, h4, h5⟩ := h
  have := fits_t h1; have := fits_t h2; have := fits_t h3; have := fits_t h4; have := fits_t h5
  constructor <;> omega
theorem l1_eq {i : AIn} (h : AFits i) {w : Int} (h0 : -5629499534213120 ≤ w) (h1 : w ≤ 5629499534213120) : i.l1 w = i.base - i.around - w := by
  obtain ⟨b0, b1, r0, r1, _, _, _, _, _, _⟩ := h
  unfold AIn.l1
  rw [w6_id (n := i.base - i.around) (by omega) (by omega), w6_id (by omega) (by omega)]
theorem l2_eq {i : AIn} (h : AFits i) : i.l2 (orV i.lA i.lN 0) (orV i.rA i.rN 0) = i.base - i.around - orV i.lA i.lN 0 - orV i.rA i.rN 0 := by
  obtain ⟨b0, b1, r0, r1, l0, l1, _, _, g0, g1⟩ := h
  unfold AIn.l2
  rw [w6_id (n := i.base - i.around) (by omega) (by omega), w6_id (n := i.base - i.around - _) (by omega) (by omega), w6_id (by omega) (by omega)]
theorem l3_eq {i : AIn} (h : AFits i) {w : Int} (h0 : -1125899906842624 ≤ w) (h1 : w ≤ 1125899906842624) : i.l3 w (orV i.lA i.lN 0) (orV i.rA i.rN 0) = i.base - i.around - w - orV i.lA i.lN 0 - orV i.rA i.rN 0 := by
  obtain ⟨b0, b1, r0, r1, l0, l1, _, _, g0, g1⟩ := h
  unfold AIn.l3
  rw [w6_id (n := i.base - i.around) (by omega) (by omega), w6_id (n := i.base - i.around - w) (by omega) (by omega), w6_id (n := i.base - i.around - w - _) (by omega) (by omega), w6_id (by omega) (by omega)]
theorem sum_eq {i : AIn} (h : AFits i) {a b w : Int} (ha0 : -1125899906842624 ≤ a) (ha1 : a ≤ 1125899906842624) (hb0 : -1125899906842624 ≤ b) (hb1 : b ≤ 1125899906842624) (h0 : -1125899906842624 ≤ w) (h1 : w ≤ 1125899906842624) :
    w6 (w6 (w6 (a + i.around) + w) + b) = a + i.around + w + b := by
  obtain ⟨b0, b1, r0, r1, _, _, _, _, _, _⟩ := h
  rw [w6_id (n := a + i.around) (by omega) (by omega), w6_id (n := a + i.around + w) (by omega) (by omega), w6_id (by omega) (by omega)]
/-- For a width, both answer alike. -/
theorem rfor_sol {i : AIn} (h : AFits i) (sA : Bool) (sN : Int) : (i.rfor sA sN).2 = ok3 (i.sol sA sN) ∧ (ok3 (i.sol sA sN) = true → (i.rfor sA sN).1 = i.sol sA sN) := by
  have hh := h
  obtain ⟨b0, b1, r0, r1, l0, l1, w0, w1, g0, g1⟩ := hh
  cases sA with
  | true =>
    simp only [AIn.rfor, AIn.sol, cond_true, AIn.rfor1]
    rw [l2_eq h]
    generalize hw : i.base - i.around - orV i.lA i.lN 0 - orV i.rA i.rN 0 = w
    cases hf : fitsB w with
    | false => simp [ok3, hf]
    | true =>
      obtain ⟨f0, f1⟩ := fits_t hf
      simp only [Bool.not_true, cond_false]
      have ho1 : orV false (orV i.lA i.lN 0) 0 = orV i.lA i.lN 0 := rfl
      have ho2 : orV false (orV i.rA i.rN 0) 0 = orV i.rA i.rN 0 := rfl
      rw [ho1, ho2, sum_eq h l0 l1 g0 g1 f0 f1]
      have hn : ¬ (orV i.lA i.lN 0 + i.around + w + orV i.rA i.rN 0 > i.base) := by omega
      simp only [hn, decide_false, cond_false, AIn.rout, Bool.false_and, Bool.false_or, Bool.not_false, Bool.true_and]
      rw [l1_eq h (by omega) (by omega)]
      have e1 : w6 (i.base - i.around - w - orV i.rA i.rN 0) = orV i.lA i.lN 0 := by rw [w6_id (by omega) (by omega)]; omega
      have e2 : w6 (i.base - i.around - w - orV i.lA i.lN 0) = orV i.rA i.rN 0 := by rw [w6_id (by omega) (by omega)]; omega
      rw [e1, e2]
      cases i.rtl <;> simp [ok3, hf]
  | false =>
    simp only [AIn.rfor, AIn.sol, cond_false, AIn.rfor1]
    cases hf : fitsB sN with
    | false => simp [ok3, hf]
    | true =>
      obtain ⟨f0, f1⟩ := fits_t hf
      simp only [Bool.not_true, cond_false]
      have h3 := l3_eq h f0 f1
      rw [sum_eq h l0 l1 g0 g1 f0 f1]
      unfold AIn.marg
      rw [h3]
      have hi : I64 (i.l1 sN) := by rw [l1_eq h (by omega) (by omega)]; constructor <;> omega
      by_cases hov : i.base - i.around - sN - orV i.lA i.lN 0 - orV i.rA i.rN 0 < 0
      · have hn : orV i.lA i.lN 0 + i.around + sN + orV i.rA i.rN 0 > i.base := by omega
        simp only [hov, hn, decide_true, cond_true, AIn.rout, Bool.not_true, Bool.false_and, Bool.false_or, Bool.true_or, Bool.and_true, cond_false, Bool.not_false, Bool.true_and]
        cases i.rtl <;> simp [ok3, hf]
      · have hn : ¬ (orV i.lA i.lN 0 + i.around + sN + orV i.rA i.rN 0 > i.base) := by omega
        simp only [hov, hn, decide_false, cond_false, AIn.rout, Bool.not_false, Bool.true_and, Bool.false_or]
        rw [refHalf_eq _ hi]
        cases hl : i.lA <;> cases hr : i.rA <;> cases hd : i.rtl <;> simp [ok3, hf, orV]
theorem solve_rsolve (i : AIn) : i.rsolve = i.solve := by
  unfold AIn.rsolve AIn.solve
  cases hf : i.fits with
  | false => rfl
  | true =>
    have h := fits_of hf
    simp only [cond_true, AIn.rstep, solveB]
    obtain ⟨p1, p2⟩ := rfor_sol h i.wA i.wN
    obtain ⟨q1, q2⟩ := rfor_sol h false i.most
    obtain ⟨r1, r2⟩ := rfor_sol h false i.least
    obtain ⟨o1, k1, e1⟩ : ∃ o k, i.rfor i.wA i.wN = (o, k) := ⟨_, _, rfl⟩
    obtain ⟨o2, k2, e2⟩ : ∃ o k, i.rfor false i.most = (o, k) := ⟨_, _, rfl⟩
    obtain ⟨o3, k3, e3⟩ : ∃ o k, i.rfor false i.least = (o, k) := ⟨_, _, rfl⟩
    rw [e1] at p1 p2; rw [e2] at q1 q2; rw [e3] at r1 r2
    simp only at p1 p2 q1 q2 r1 r2
    simp only [e1, e2, e3, ← p1, ← q1, ← r1]
    rw [← p1] at p2; rw [← q1] at q2; rw [← r1] at r2
    clear p1 q1 r1 e1 e2 e3
    cases k1 with
    | false => simp
    | true =>
      have s1 := p2 rfl
      subst s1
      simp only [Bool.not_true, cond_false, Bool.true_and]
      by_cases c1 : (i.sol i.wA i.wN).2.1 > i.most
      · simp only [c1, decide_true, cond_true]
        cases k2 with
        | false => simp
        | true =>
          have s2 := q2 rfl
          subst s2
          simp only [Bool.not_true, cond_false, Bool.true_and]
          by_cases c2 : (i.sol false i.most).2.1 < i.least
          · simp only [c2, decide_true, cond_true]
            cases k3 with
            | false => simp
            | true => have s3 := r2 rfl; subst s3; simp
          · simp [c2]
      · simp only [c1, decide_false, cond_false, Bool.true_and]
        by_cases c2 : (i.sol i.wA i.wN).2.1 < i.least
        · simp only [c2, decide_true, cond_true]
          cases k3 with
          | false => simp
          | true => have s3 := r2 rfl; subst s3; simp
        · simp [c2]
theorem AcrossSolves_x (i : AIn) : xfun Try.prog (EX Try.prog) L1 6 3 [i.mv] [] fin = some (B true, []) := by
  refine (x3 i).trans ?_
  rw [solve_rsolve]
  simp
/-- What an answer is: one of three, each with its numbers. -/
theorem solve_is (i : AIn) (h : i.solve.2 = true) : AFits i ∧ ∃ sA sN, i.solve.1 = i.sol sA sN ∧ ok3 (i.sol sA sN) = true ∧ ((sA = i.wA ∧ sN = i.wN ∧ (i.sol sA sN).2.1 ≤ i.most ∧ i.least ≤ (i.sol sA sN).2.1) ∨ (sA = false ∧ sN = i.most ∧ i.least ≤ (i.sol sA sN).2.1) ∨ (sA = false ∧ sN = i.least)) := by
  unfold AIn.solve at h ⊢
  cases hf : i.fits with
  | false => rw [hf] at h; simp at h
  | true =>
    refine ⟨fits_of hf, ?_⟩
    rw [hf] at h
    simp only [cond_true, solveB] at h ⊢
    cases k1 : ok3 (i.sol i.wA i.wN) with
    | false => simp [k1] at h
    | true =>
      simp only [k1, Bool.not_true, cond_false] at h ⊢
      by_cases c1 : (i.sol i.wA i.wN).2.1 > i.most
      · simp only [c1, decide_true, cond_true] at h ⊢
        cases k2 : ok3 (i.sol false i.most) with
        | false => simp [k2] at h
        | true =>
          simp only [k2, Bool.not_true, cond_false] at h ⊢
          by_cases c2 : (i.sol false i.most).2.1 < i.least
          · simp only [c2, decide_true, cond_true] at h ⊢
            cases k3 : ok3 (i.sol false i.least) with
            | false => simp [k3] at h
            | true => simp only [k3, Bool.not_true, cond_false]; exact ⟨_, _, rfl, k3, .inr (.inr ⟨rfl, rfl⟩)⟩
          · simp only [c2, decide_false, cond_false]; exact ⟨_, _, rfl, k2, .inr (.inl ⟨rfl, rfl, by omega⟩)⟩
      · simp only [c1, decide_false, cond_false] at h ⊢
        by_cases c2 : (i.sol i.wA i.wN).2.1 < i.least
        · simp only [c2, decide_true, cond_true] at h ⊢
          cases k3 : ok3 (i.sol false i.least) with
          | false => simp [k3] at h
          | true => simp only [k3, Bool.not_true, cond_false]; exact ⟨_, _, rfl, k3, .inr (.inr ⟨rfl, rfl⟩)⟩
        · simp only [c2, decide_false, cond_false]; exact ⟨_, _, rfl, k1, .inl ⟨rfl, rfl, by omega, by omega⟩⟩
end Go.Proofs.Ytokdpnpldoaepaa.Ac
