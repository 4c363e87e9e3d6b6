/- What is proved: Sum and Fits give the specified results. Conditions: none. -/
import Derived.Test.YtpoeebngkakmeaaPPInx
import Derived.Test.YtpoeebngkakmeaaOpens
namespace Go.Proofs.Ytpoeebngkakmeaa.Pure
open Go.RowKit Go.Proofs.Ytpoeebngkakmeaa.PPIn Go.Proofs.YtpoeebngkakmeaaW.PrintWords Go.Proofs.YtpoeebngkakmeaaW.PrintLast
set_option linter.unusedSimpArgs false
set_option linter.unusedVariables false
open Go.Proofs.Ytpoeebngkakmeaa.Opens

/-! ### A loop over a list, place by place -/
theorem w64 {n : Int} (h1 : -9223372036854775808 ≤ n) (h2 : n ≤ 9223372036854775807) : wrap64 n = n := by unfold wrap64; omega
theorem mid_lt {α : Type} (l1 : List α) (x : α) (l2 : List α) : ((l1.length : Int) < ((l1 ++ x :: l2).length : Int)) := by simp; omega
theorem mid_ge {α : Type} (l1 : List α) : ¬ ((l1.length : Int) < ((l1 ++ []).length : Int)) := by simp
theorem mid_next {α : Type} (l1 : List α) (x : α) (l2 : List α) (h : (l1 ++ x :: l2).length ≤ 4611686018427387904) : wrap64 ((l1.length : Int) + 1) = ((l1 ++ [x]).length : Int) := by
  simp at h ⊢
  rw [w64 (by omega) (by omega)]
theorem mid_app {α : Type} (l1 : List α) (x : α) (l2 : List α) : l1 ++ x :: l2 = (l1 ++ [x]) ++ l2 := by simp

/-- A number fits. -/
def fit (a : Int) : Prop := -1125899906842624 ≤ a ∧ a ≤ 1125899906842624
instance (a : Int) : Decidable (fit a) := by unfold fit; exact inferInstance
theorem fits_fit (a : Int) : fix_Fits.f a = some (decide (fit a)) := by
  unfold fix_Fits.f
  by_cases h : a ≥ -1125899906842624
  · rw [if_pos h]; congr 1; rw [decide_eq_decide]; unfold fit; omega
  · rw [if_neg h]; congr 1; symm; rw [decide_eq_false_iff_not]; unfold fit; omega

/-! ### The sum of numbers that fit -/
theorem and25 (n : Int) : Go.bits .and .i64 n 33554431 = n % 33554432 := by
  have h127 : (BitVec.ofInt 64 33554431).toNat = 2 ^ 25 - 1 := by decide
  have key : (BitVec.ofInt 64 n &&& BitVec.ofInt 64 33554431).toNat = (n % ((2 ^ 64 : Nat) : Int)).toNat % 2 ^ 25 := by
    rw [BitVec.toNat_and, BitVec.toNat_ofInt, h127, Nat.and_two_pow_sub_one_eq_mod]
  show IntKind.i64.wrap ((BitVec.ofInt 64 n &&& BitVec.ofInt 64 33554431).toNat : Nat) = n % 33554432
  rw [key, IntKind.wrap_i64]
  omega
/-- What a sum answers. -/
def fsum (l : List Int) : Int × Bool := if (∀ x ∈ l, fit x) ∧ fit l.sum then (l.sum, true) else (0, false)
theorem sum_bd (l : List Int) (h : ∀ x ∈ l, fit x) : -(1125899906842624 * (l.length : Int)) ≤ l.sum ∧ l.sum ≤ 1125899906842624 * (l.length : Int) := by
  induction l with
  | nil => simp
  | cons a l ih =>
    have h1 := h a (by simp)
    have h2 := ih fun x hx => h x (by simp [hx])
    unfold fit at h1
    simp only [List.sum_cons, List.length_cons]
    omega
theorem rdi_mid' (l1 : List Int) (x : Int) (l2 : List Int) : rd (l1 ++ x :: l2) (l1.length : Int) = x := by unfold rd; simp
theorem sum1 (k : Nat) (h : Int) (b : Bool) (hk : 1 ≤ k) (r : Int) (h0 : 0 ≤ r) (h1 : r < 33554432) (hb : b = decide (h < -33554432 ∨ h > 33554432)) :
    fix_Sum.j1 k h r b = some (if fit (h * 33554432 + r) then (h * 33554432 + r, true) else (0, false)) := by
  obtain ⟨k, rfl⟩ : ∃ m, k = m + 1 := ⟨k - 1, by omega⟩
  simp only [fix_Sum.j1]
  subst hb
  by_cases hh : h < -33554432 ∨ h > 33554432
  · rw [if_pos (by simpa using hh), if_neg (by unfold fit; omega)]
  · rw [if_neg (by simpa using hh), w64 (n := h * 33554432) (by omega) (by omega), w64 (by omega) (by omega), fits_fit]
    simp only [Option.bind_some]
    by_cases hf : fit (h * 33554432 + r)
    · rw [if_pos (by simpa using hf), if_pos hf]
    · rw [if_neg (by simpa using hf), if_neg hf]
theorem suml (l2 : List Int) : ∀ (l1 : List Int) (h r : Int) (k : Nat), l2.length + 1 < k → (l1 ++ l2).length ≤ 4000 → (∀ x ∈ l1, fit x) → h * 33554432 + r = l1.sum → 0 ≤ r → r ≤ 33554432 * (l1.length : Int) →
    fix_Sum.l0 k h r (l1 ++ l2) ((l1 ++ l2).length : Int) (l1.length : Int) = some (fsum (l1 ++ l2)) := by
  induction l2 with
  | nil =>
    intro l1 h r k hk hn hf hs h0 h1
    obtain ⟨k, rfl⟩ : ∃ m, k = m + 1 := ⟨k - 1, by omega⟩
    have hb := sum_bd l1 hf
    simp only [List.append_nil] at hn ⊢
    simp only [fix_Sum.l0]
    rw [if_neg (by omega), w64 (n := h + r / 33554432) (by omega) (by omega), and25]
    have e : (h + r / 33554432) * 33554432 + r % 33554432 = l1.sum := by omega
    have hj := sum1 k (h + r / 33554432) (decide (h + r / 33554432 < -33554432 ∨ h + r / 33554432 > 33554432)) (by simp at hk; omega) (r % 33554432) (by omega) (by omega) rfl
    rw [e] at hj
    have hfs : fsum l1 = if fit l1.sum then (l1.sum, true) else (0, false) := by
      unfold fsum
      by_cases g : fit l1.sum
      · rw [if_pos ⟨hf, g⟩, if_pos g]
      · rw [if_neg (fun c => g c.2), if_neg g]
    rw [hfs]
    by_cases c : h + r / 33554432 < -33554432
    · rw [if_pos c]
      rw [decide_eq_true (.inl c)] at hj
      exact hj
    · rw [if_neg c]
      have ed : decide (h + r / 33554432 > 33554432) = decide (h + r / 33554432 < -33554432 ∨ h + r / 33554432 > 33554432) := by rw [decide_eq_decide]; omega
      rw [ed]
      exact hj
  | cons x l2 ih =>
    intro l1 h r k hk hn hf hs h0 h1
    obtain ⟨k, rfl⟩ : ∃ m, k = m + 1 := ⟨k - 1, by omega⟩
    have hb := sum_bd l1 hf
    have hl : l1.length ≤ 4000 := by simp at hn; omega
    simp only [List.length_cons] at hk
    simp only [fix_Sum.l0]
    rw [if_pos (mid_lt _ _ _), if_pos (by omega), if_pos (mid_lt _ _ _), rdi_mid', mid_next l1 x l2 (by omega), fits_fit]
    simp only [Option.bind_some]
    by_cases hx : fit x
    · rw [if_pos (by simpa using hx), and25]
      have hx2 := hx
      unfold fit at hx2
      rw [w64 (n := h + x / 33554432) (by omega) (by omega), w64 (n := r + x % 33554432) (by omega) (by omega)]
      rw [mid_app l1 x l2] at hn ⊢
      refine ih (l1 ++ [x]) _ _ k (by omega) hn (fun y hy => ?_) ?_ (by omega) ?_
      · rcases List.mem_append.1 hy with hy | hy
        · exact hf y hy
        · rw [List.mem_singleton.1 hy]; exact hx
      · rw [List.sum_append, List.sum_singleton]; omega
      · rw [List.length_append, List.length_singleton]; omega
    · rw [if_neg (by simpa using hx)]
      unfold fsum
      rw [if_neg (fun c => hx (c.1 x (by simp)))]
theorem sum_eq (l : List Int) (k : Nat) (hk : l.length + 1 < k) (hn : l.length ≤ 4000) : fix_Sum.f k l = some (fsum l) := by
  unfold fix_Sum.f
  exact suml l [] 0 0 k hk hn (by simp) (by simp) (by omega) (by omega)

end Go.Proofs.Ytpoeebngkakmeaa.Pure
