/- What is proved: of a box one of whose sides is auto: no other place keeps what is said. Conditions: none but those in each statement. -/
import Derived.Test.YtokdpnpldoaepaaHgC
namespace Go.Proofs.Ytokdpnpldoaepaa.Hg
open Go Go.RowKit Go.Proofs.Ytokdpnpldoaepaa.X Go.Proofs.Ytokdpnpldoaepaa.Ac
set_option linter.unusedVariables false
set_option linter.unusedSimpArgs false
theorem only_facts (j : HIn) (hp : j.pA = false) (hq : j.qA = false) (hne : j.rA = !j.lA) (hk : j.solve.2 = true) :
    (j.solve.1.w = j.want ∨ j.solve.1.w = j.least ∨ j.solve.1.w = j.most ∨ (j.wA = false ∧ j.solve.1.w = j.wN)) ∧
    (j.lA = true → j.solve.1.r = j.rN ∧ j.solve.1.l = w6 (w6 (w6 (w6 (w6 (j.base - j.around) - j.pN) - j.qN) - j.solve.1.w) - j.rN)) ∧
    (j.lA = false → j.solve.1.l = j.lN ∧ j.solve.1.r = w6 (w6 (w6 (w6 (w6 (j.base - j.around) - j.pN) - j.qN) - j.solve.1.w) - j.lN)) := by
  obtain ⟨h, sA, sN, e, ho, hc⟩ := solve_is j hk
  rw [e]
  have hsum := sol_sum h ho
  have hfit := ok5_fit ho
  obtain ⟨b0, b1⟩ := h.base
  obtain ⟨a0, a1⟩ := h.around
  have hst := h.start
  have hP : (j.sol sA sN).p = j.pN := by
    unfold HIn.sol HIn.opn HIn.op2 HIn.op1 HIn.start HIn.said
    cases h1 : j.lA <;> cases h2 : j.rA <;> rw [h1, h2] at hne <;> first | (exfalso; revert hne; decide) | (cases sA <;> cases j.turned <;> simp [hp, orV])
  have hQ : (j.sol sA sN).q = j.qN := by
    unfold HIn.sol HIn.opn HIn.op2 HIn.op1 HIn.start HIn.said
    cases h1 : j.lA <;> cases h2 : j.rA <;> rw [h1, h2] at hne <;> first | (exfalso; revert hne; decide) | (cases sA <;> cases j.turned <;> simp [hq, orV])
  have hL : j.lA = false → (j.sol sA sN).l = j.lN := by
    intro h1
    have h2 : j.rA = true := by rw [hne, h1]; rfl
    unfold HIn.sol HIn.opn HIn.op2 HIn.op1 HIn.start HIn.said
    cases sA <;> cases j.turned <;> simp [h1, h2, orV]
  have hR : j.lA = true → (j.sol sA sN).r = j.rN := by
    intro h1
    have h2 : j.rA = false := by rw [hne, h1]; rfl
    unfold HIn.sol HIn.opn HIn.op2 HIn.op1 HIn.start HIn.said
    cases sA <;> cases j.turned <;> simp [h1, h2, orV]
  have hW : sA = true → (j.sol sA sN).w = j.want := by
    rintro rfl
    unfold HIn.sol HIn.opn HIn.op2 HIn.op1 HIn.start HIn.said
    cases h1 : j.lA <;> cases h2 : j.rA <;> rw [h1, h2] at hne <;> first | (exfalso; revert hne; decide) | (cases j.turned <;> simp)
  unfold O5.sum at hsum
  obtain ⟨⟨l0, l1⟩, ⟨p0, p1⟩, ⟨w0, w1⟩, ⟨q0, q1⟩, ⟨r0, r1⟩⟩ := hfit
  rw [hP] at p0 p1 hsum
  rw [hQ] at q0 q1 hsum
  refine ⟨?_, fun h1 => ⟨hR h1, ?_⟩, fun h1 => ⟨hL h1, ?_⟩⟩
  · rcases hc with ⟨rfl, rfl, _, _⟩ | ⟨rfl, rfl, _⟩ | ⟨rfl, rfl⟩
    · cases hw : j.wA with
      | true => rw [hw] at hW; exact .inl (hW rfl)
      | false => exact .inr (.inr (.inr ⟨rfl, by rw [sol_w]⟩))
    · exact .inr (.inr (.inl (sol_w _ _)))
    · exact .inr (.inl (sol_w _ _))
  · have := hR h1
    rw [this] at hsum r0 r1
    rw [w6_id (n := j.base - j.around) (by omega) (by omega), w6_id (n := j.base - j.around - j.pN) (by omega) (by omega), w6_id (n := j.base - j.around - j.pN - j.qN) (by omega) (by omega), w6_id (n := j.base - j.around - j.pN - j.qN - _) (by omega) (by omega), w6_id (by omega) (by omega)]
    omega
  · have := hL h1
    rw [this] at hsum l0 l1
    rw [w6_id (n := j.base - j.around) (by omega) (by omega), w6_id (n := j.base - j.around - j.pN) (by omega) (by omega), w6_id (n := j.base - j.around - j.pN - j.qN) (by omega) (by omega), w6_id (n := j.base - j.around - j.pN - j.qN - _) (by omega) (by omega), w6_id (by omega) (by omega)]
    omega
theorem HangOnly_x (i : HIn) (left : Bool) : xfun Try.prog (EX Try.prog) L1 6 13 [i.mv, B left] [] fin = some (B true, []) := by
  refine (x13 i left).trans ?_
  obtain ⟨base, lA, lN, pA, pN, wA, wN, qA, qN, rA, rN, around, want, stat, behind, rtl, turned, least, most⟩ := i
  dsimp only
  cases pA with
  | true => rfl
  | false =>
    cases qA with
    | true => rfl
    | false =>
      simp only [cond_false]
      by_cases hlm : least > most
      · simp [hlm]
      · simp only [hlm, decide_false, cond_false]
        have F := only_facts ⟨base, left, lN, false, pN, wA, wN, false, qN, !left, rN, around, want, stat, behind, rtl, turned, least, most⟩ rfl rfl rfl
        generalize HIn.solve ⟨base, left, lN, false, pN, wA, wN, false, qN, !left, rN, around, want, stat, behind, rtl, turned, least, most⟩ = s at F ⊢
        obtain ⟨o, k⟩ := s
        cases k with
        | false => rfl
        | true =>
          obtain ⟨f1, f2, f3⟩ := F rfl
          simp only [Bool.not_true, cond_false] at f1 f2 f3 ⊢
          obtain ⟨c1, hc1⟩ : ∃ p, (o.w == want) = p := ⟨_, rfl⟩
          obtain ⟨c2, hc2⟩ : ∃ p, (o.w == least) = p := ⟨_, rfl⟩
          obtain ⟨c3, hc3⟩ : ∃ p, (o.w == most) = p := ⟨_, rfl⟩
          obtain ⟨c4, hc4⟩ : ∃ p, (o.w == wN) = p := ⟨_, rfl⟩
          have d1 : (c1 || (c2 || (c3 || (!wA && c4)))) = true := by rw [← hc1, ← hc2, ← hc3, ← hc4]; simpa using f1
          simp only [hc1, hc2, hc3, hc4]
          clear hc1 hc2 hc3 hc4 f1 F
          cases left with
          | true =>
            obtain ⟨g1, g2⟩ := f2 rfl
            have k1 : (o.r == rN) = true := by simpa using g1
            have k2 : (o.l == IntKind.wrap IntKind.i64 (IntKind.wrap IntKind.i64 (IntKind.wrap IntKind.i64 (IntKind.wrap IntKind.i64 (IntKind.wrap IntKind.i64 (base - around) - pN) - qN) - o.w) - rN)) = true := by simpa using g2
            simp only [k1, k2, cond_true]
            revert d1
            cases c1 <;> cases c2 <;> cases c3 <;> cases c4 <;> cases wA <;> simp
          | false =>
            obtain ⟨g1, g2⟩ := f3 rfl
            have k1 : (o.l == lN) = true := by simpa using g1
            have k2 : (o.r == IntKind.wrap IntKind.i64 (IntKind.wrap IntKind.i64 (IntKind.wrap IntKind.i64 (IntKind.wrap IntKind.i64 (IntKind.wrap IntKind.i64 (base - around) - pN) - qN) - o.w) - lN)) = true := by simpa using g2
            simp only [k1, k2, cond_true, cond_false, Bool.not_false]
            revert d1
            cases c1 <;> cases c2 <;> cases c3 <;> cases c4 <;> cases wA <;> simp
end Go.Proofs.Ytokdpnpldoaepaa.Hg
