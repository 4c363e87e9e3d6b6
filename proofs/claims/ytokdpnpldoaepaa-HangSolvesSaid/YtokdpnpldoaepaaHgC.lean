/- What is proved: in plain numbers, what the layer hang answers. Conditions: none but those in each statement. -/
import Derived.Test.YtokdpnpldoaepaaHgB
import Derived.Test.YtokdpnpldoaepaaAcG
namespace Go.Proofs.Ytokdpnpldoaepaa.Hg
open Go Go.RowKit Go.Proofs.Ytokdpnpldoaepaa.X Go.Proofs.Ytokdpnpldoaepaa.Ac
set_option linter.unusedVariables false
set_option linter.unusedSimpArgs false
theorem solveB_is {O : Type} {f : Bool → Int → O} {num : O → Int} {ok : O → Bool} {z : O} {b : Bool} {n least most : Int} (h : (solveB f num ok z b n least most).2 = true) :
    ∃ sA sN, (solveB f num ok z b n least most).1 = f sA sN ∧ ok (f sA sN) = true ∧ ((sA = b ∧ sN = n ∧ num (f sA sN) ≤ most ∧ least ≤ num (f sA sN)) ∨ (sA = false ∧ sN = most ∧ least ≤ num (f sA sN)) ∨ (sA = false ∧ sN = least)) := by
  unfold solveB at h ⊢
  cases k1 : ok (f b n) with
  | false => simp [k1] at h
  | true =>
    simp only [k1, Bool.not_true, cond_false] at h ⊢
    by_cases c1 : num (f b n) > most
    · simp only [c1, decide_true, cond_true] at h ⊢
      cases k2 : ok (f false most) with
      | false => simp [k2] at h
      | true =>
        simp only [k2, Bool.not_true, cond_false] at h ⊢
        by_cases c2 : num (f false most) < least
        · simp only [c2, decide_true, cond_true] at h ⊢
          cases k3 : ok (f false least) with
          | false => simp [k3] at h
          | true => simp only [k3, Bool.not_true, cond_false]; exact ⟨_, _, rfl, k3, .inr (.inr ⟨rfl, rfl⟩)⟩
        · simp only [c2, decide_false, cond_false]; exact ⟨_, _, rfl, k2, .inr (.inl ⟨rfl, rfl, by omega⟩)⟩
    · simp only [c1, decide_false, cond_false] at h ⊢
      by_cases c2 : num (f b n) < least
      · simp only [c2, decide_true, cond_true] at h ⊢
        cases k3 : ok (f false least) with
        | false => simp [k3] at h
        | true => simp only [k3, Bool.not_true, cond_false]; exact ⟨_, _, rfl, k3, .inr (.inr ⟨rfl, rfl⟩)⟩
      · simp only [c2, decide_false, cond_false]; exact ⟨_, _, rfl, k1, .inl ⟨rfl, rfl, by omega, by omega⟩⟩
def Fit (n : Int) : Prop := -1125899906842624 ≤ n ∧ n ≤ 1125899906842624
structure OFit (o : O5) : Prop where
  l : Fit o.l
  p : Fit o.p
  w : Fit o.w
  q : Fit o.q
  r : Fit o.r
structure HFits (i : HIn) : Prop where
  base : Fit i.base
  around : Fit i.around
  want : Fit i.want
  stat : Fit i.stat
  behind : Fit i.behind
  start : OFit (i.start i.wA i.wN)
theorem ok5_fit {o : O5} (h : ok5 o = true) : OFit o := by
  unfold ok5 at h
  simp only [Bool.and_eq_true] at h
  exact ⟨fits_t h.1, fits_t h.2.1, fits_t h.2.2.1, fits_t h.2.2.2.1, fits_t h.2.2.2.2⟩
theorem hfits_of {i : HIn} (h : i.fits = true) : HFits i := by
  unfold HIn.fits at h
  simp only [Bool.and_eq_true] at h
  exact ⟨fits_t h.1, fits_t h.2.1, fits_t h.2.2.1, fits_t h.2.2.2.1, fits_t h.2.2.2.2.1, ok5_fit h.2.2.2.2.2⟩
theorem rest_eq {b a : Int} {o : O5} (hb : Fit b) (ha : Fit a) (ho : OFit o) : restN b a o = b - a - o.l - o.p - o.w - o.q - o.r := by
  obtain ⟨b0, b1⟩ := hb
  obtain ⟨a0, a1⟩ := ha
  obtain ⟨⟨l0, l1⟩, ⟨p0, p1⟩, ⟨w0, w1⟩, ⟨q0, q1⟩, ⟨r0, r1⟩⟩ := ho
  unfold restN
  rw [w6_id (n := b - a) (by omega) (by omega), w6_id (n := b - a - o.l) (by omega) (by omega), w6_id (n := b - a - o.l - o.p) (by omega) (by omega), w6_id (n := b - a - o.l - o.p - o.w) (by omega) (by omega), w6_id (n := b - a - o.l - o.p - o.w - o.q) (by omega) (by omega), w6_id (by omega) (by omega)]
def O5.sum (o : O5) : Int := o.l + o.p + o.w + o.q + o.r
theorem said_sum {i : HIn} {o : O5} (hb : Fit i.base) (ha : Fit i.around) (ho : OFit o) (hp : i.pA = true → o.p = 0) (hq : i.qA = true → o.q = 0) : (i.said o).sum + i.around = i.base := by
  have e := rest_eq hb ha ho
  obtain ⟨b0, b1⟩ := hb
  obtain ⟨a0, a1⟩ := ha
  obtain ⟨⟨l0, l1⟩, ⟨p0, p1⟩, ⟨w0, w1⟩, ⟨q0, q1⟩, ⟨r0, r1⟩⟩ := ho
  unfold HIn.said HIn.rest
  rw [e]
  generalize hr : i.base - i.around - o.l - o.p - o.w - o.q - o.r = rest
  have e1 : w6 (rest - rest / 2) = rest - rest / 2 := w6_id (by omega) (by omega)
  have e2 : w6 (o.l + rest) = o.l + rest := w6_id (by omega) (by omega)
  have e3 : w6 (o.r + rest) = o.r + rest := w6_id (by omega) (by omega)
  rw [e1, e2, e3]
  cases h1 : i.pA <;> cases h2 : i.qA <;> simp only [h1, h2, Bool.true_and, Bool.false_and, Bool.and_false, cond_true, cond_false, forall_const] at hp hq ⊢
  · cases i.rtl <;> simp only [cond_true, cond_false, O5.sum] <;> omega
  · simp only [O5.sum]; omega
  · simp only [O5.sum]; omega
  · by_cases h3 : rest ≥ 0 <;> simp only [h3, decide_true, decide_false, cond_true, cond_false]
    · simp only [O5.sum]; omega
    · cases i.rtl <;> simp only [cond_true, cond_false, O5.sum] <;> omega
theorem opn_sum {i : HIn} {sA : Bool} {o : O5} (hb : Fit i.base) (ha : Fit i.around) (hw' : Fit i.want) (hs : Fit i.stat) (hbe : Fit i.behind) (ho : OFit o) (hl : i.lA = true → o.l = 0) (hr : i.rA = true → o.r = 0) (hw : sA = true → o.w = 0)
    (hne : (sA || (i.lA || i.rA)) = true) : (i.opn sA o).sum + i.around = i.base := by
  have h2 : OFit (i.op2 (i.op1 sA o)) := by
    unfold HIn.op2 HIn.op1
    obtain ⟨f1, f2, f3, f4, f5⟩ := ho
    cases sA <;> cases i.lA <;> cases i.rA <;> cases i.turned <;> simp only [Bool.true_and, Bool.false_and, Bool.and_true, Bool.and_false, Bool.or_true, Bool.or_false, cond_true, cond_false] <;> constructor <;> assumption
  have e := rest_eq hb ha h2
  unfold HIn.opn HIn.rest
  rw [e]
  clear e h2
  unfold HIn.op2 HIn.op1
  cases h3 : sA <;> cases h4 : i.lA <;> cases h5 : i.rA <;> cases h6 : i.turned <;> simp only [h3, h4, h5, Bool.or_false, Bool.false_eq_true, forall_const] at hl hr hw hne <;>
    simp only [Bool.true_and, Bool.false_and, Bool.and_true, Bool.and_false, Bool.or_true, Bool.or_false, Bool.true_or, Bool.false_or, Bool.not_true, Bool.not_false, cond_true, cond_false, O5.sum] <;> omega
theorem sol_w (i : HIn) (sN : Int) : (i.sol false sN).w = sN := by
  unfold HIn.sol HIn.opn HIn.said HIn.op2 HIn.op1 HIn.start orV
  generalize decide (i.rest _ ≥ 0) = d
  cases d <;> cases i.lA <;> cases i.rA <;> cases i.turned <;> cases i.pA <;> cases i.qA <;> cases i.rtl <;> rfl
theorem start_fit {i : HIn} (h : HFits i) {sA : Bool} {sN : Int} (hk : ok5 (i.sol sA sN) = true) : OFit (i.start sA sN) := by
  obtain ⟨f1, f2, f3, f4, f5⟩ := h.start
  refine ⟨f1, f2, ?_, f4, f5⟩
  cases sA with
  | true => exact ⟨by simp [HIn.start, orV], by simp [HIn.start, orV]⟩
  | false => have := (ok5_fit hk).w; rw [sol_w] at this; exact this
theorem sol_sum {i : HIn} (h : HFits i) {sA : Bool} {sN : Int} (hk : ok5 (i.sol sA sN) = true) : (i.sol sA sN).sum + i.around = i.base := by
  have hf := start_fit h hk
  clear hk
  unfold HIn.sol
  cases hc : (sA || (i.lA || i.rA)) with
  | true =>
    refine opn_sum h.base h.around h.want h.stat h.behind hf ?_ ?_ ?_ hc <;> intro hh <;> simp [HIn.start, hh, orV]
  | false =>
    refine said_sum h.base h.around hf ?_ ?_ <;> intro hh <;> simp [HIn.start, hh, orV]
theorem solve_is (i : HIn) (h : i.solve.2 = true) : HFits i ∧ ∃ sA sN, i.solve.1 = i.sol sA sN ∧ ok5 (i.sol sA sN) = true ∧ ((sA = i.wA ∧ sN = i.wN ∧ (i.sol sA sN).w ≤ i.most ∧ i.least ≤ (i.sol sA sN).w) ∨ (sA = false ∧ sN = i.most ∧ i.least ≤ (i.sol sA sN).w) ∨ (sA = false ∧ sN = i.least)) := by
  unfold HIn.solve at h ⊢
  cases hf : i.fits with
  | false => rw [hf] at h; simp at h
  | true => rw [hf] at h; exact ⟨hfits_of hf, solveB_is h⟩
theorem HangSums_x (i : HIn) : xfun Try.prog (EX Try.prog) L1 6 11 [i.mv] [] fin = some (B true, []) := by
  refine (x11 i).trans ?_
  by_cases hlm : i.least > i.most
  · simp [hlm]
  · cases hk : i.solve.2 with
    | false => simp [hlm, hk]
    | true =>
      obtain ⟨h, sA, sN, e, ho, hc⟩ := solve_is i hk
      have s := sol_sum h ho
      obtain ⟨⟨l0, l1⟩, ⟨p0, p1⟩, ⟨w0, w1⟩, ⟨q0, q1⟩, ⟨r0, r1⟩⟩ := ok5_fit ho
      obtain ⟨a0, a1⟩ := h.around
      have hb : i.least ≤ (i.sol sA sN).w ∧ (i.sol sA sN).w ≤ i.most := by
        rcases hc with ⟨_, _, h1, h2⟩ | ⟨rfl, rfl, h2⟩ | ⟨rfl, rfl⟩
        · exact ⟨h2, h1⟩
        · exact ⟨h2, by rw [sol_w]; omega⟩
        · rw [sol_w]; omega
      have n1 : (decide (i.least > i.most)) = false := by simpa using hlm
      have n2 : (decide ((i.sol sA sN).w ≥ i.least)) = true := by simpa using hb.1
      have n3 : (decide ((i.sol sA sN).w ≤ i.most)) = true := by simpa using hb.2
      rw [e]
      generalize i.sol sA sN = o at *
      unfold O5.sum at s
      have e1 : IntKind.wrap IntKind.i64 (IntKind.wrap IntKind.i64 (IntKind.wrap IntKind.i64 (IntKind.wrap IntKind.i64 (IntKind.wrap IntKind.i64 (o.l + o.p) + i.around) + o.w) + o.q) + o.r) = i.base := by
        rw [wrap_id (n := o.l + o.p) (by omega) (by omega), wrap_id (n := o.l + o.p + i.around) (by omega) (by omega), wrap_id (n := o.l + o.p + i.around + o.w) (by omega) (by omega), wrap_id (n := o.l + o.p + i.around + o.w + o.q) (by omega) (by omega), wrap_id (by omega) (by omega)]
        omega
      simp only [hk, e1, n1, n2, n3, Bool.not_true, cond_false, cond_true, beq_self_eq_true]
end Go.Proofs.Ytokdpnpldoaepaa.Hg
