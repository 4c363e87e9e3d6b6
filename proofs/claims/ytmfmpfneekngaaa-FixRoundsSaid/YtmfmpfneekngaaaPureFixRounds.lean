/- What is proved: Part rounds down and is monotonic in the base. Conditions: none. -/
import Derived.Test.YtmfmpfneekngaaaPFixRoundsx
import Derived.OpenShut
namespace Go.Proofs.Ytmfmpfneekngaaa.Pure
open Go.RowKit Go.Proofs.Ytmfmpfneekngaaa.PFixRounds Go.Proofs.YtmfmpfneekngaaaW.PrintWords Go.Proofs.YtmfmpfneekngaaaW.PrintLast

/-! ### awake, Fits -/
theorem awake_ok (k : Nat) (hk : 1 ≤ k) : decoupagelaw01_awake.f k = some true := by
  exact at_rounds (g := fun k => decoupagelaw01_awake.f k) (fun k => decoupagelaw01_awake.mono k) hk (by decide +kernel)
theorem fits_eq (a : Int) : fix_Fits.f a = some (decide (-1125899906842624 ≤ a ∧ a ≤ 1125899906842624)) := by
  unfold fix_Fits.f
  by_cases h : a ≥ -1125899906842624
  · rw [if_pos h]; simp [h]
  · rw [if_neg h]; simp [show ¬ (-1125899906842624 ≤ a) by omega]

theorem w64 {n : Int} (h1 : -9223372036854775808 ≤ n) (h2 : n ≤ 9223372036854775807) : wrap64 n = n := by unfold wrap64; omega
/-- A product of two numbers in their bounds. -/
theorem mul_bd {a b A B : Int} (h1 : 0 ≤ a) (h2 : a ≤ A) (h3 : -B ≤ b) (h4 : b ≤ B) : -(A * B) ≤ a * b ∧ a * b ≤ A * B := by
  have hB : 0 ≤ B := by omega
  have e1 : a * b ≤ a * B := Int.mul_le_mul_of_nonneg_left h4 h1
  have e2 : a * B ≤ A * B := Int.mul_le_mul_of_nonneg_right h2 hB
  have e3 : a * (-B) ≤ a * b := Int.mul_le_mul_of_nonneg_left h3 h1
  rw [Int.mul_neg] at e3
  omega
theorem down_eq (x : Int) (h1 : -9223372036854775808 ≤ x) (h2 : x ≤ 9223372036854775807) : fix_down.f x 10000 = some (x / 10000) := by
  unfold fix_down.f
  rw [if_neg (by decide)]
  by_cases hx : 0 ≤ x
  · rw [Int.tmod_eq_emod_of_nonneg hx, Int.tdiv_eq_ediv_of_nonneg hx, if_neg (by omega), w64 (by omega) (by omega)]
  · have hd : Int.tdiv x 10000 = -((-x) / 10000) := by rw [← Int.tdiv_eq_ediv_of_nonneg (by omega), Int.neg_tdiv, Int.neg_neg]
    have hm : Int.tmod x 10000 = -((-x) % 10000) := by
      have := Int.tmod_add_mul_tdiv x 10000
      rw [hd] at this
      omega
    rw [hd, hm, w64 (n := -(-x / 10000)) (by omega) (by omega)]
    split
    · rw [w64 (by omega) (by omega)]; congr 1; omega
    · congr 1; omega
/-- What a part of something is: rounded down. -/
def part (a p : Int) : Int := a * p / 10000
theorem part_split (a p : Int) : a / 10000 * p + (a % 10000 * p) / 10000 = part a p := by
  unfold part
  have h : a * p = a % 10000 * p + 10000 * (a / 10000 * p) := by
    have h0 : a = a % 10000 + 10000 * (a / 10000) := (Int.emod_add_mul_ediv a 10000).symm
    have h1 : a * p = (a % 10000 + 10000 * (a / 10000)) * p := by rw [← h0]
    rw [h1, Int.add_mul, Int.mul_assoc]
  rw [h, Int.add_mul_ediv_left _ _ (by decide)]
  omega
theorem part_ok (a p : Int) (h1 : 0 ≤ a) (h2 : a ≤ 1125899906842624) (h3 : -1000000 ≤ p) (h4 : p ≤ 1000000) (k : Nat) (hk : 1 ≤ k) :
    fix_Part.f k a p = if -1125899906842624 ≤ part a p ∧ part a p ≤ 1125899906842624 then some (part a p, true) else some (0, false) := by
  obtain ⟨k, rfl⟩ : ∃ m, k = m + 1 := ⟨k - 1, by omega⟩
  unfold fix_Part.f
  rw [if_neg (by omega), if_neg (by omega), if_neg (by omega)]
  have hd : decide (p > 1000000) = false := decide_eq_false (by omega)
  rw [hd]
  have hq := mul_bd (a := a / 10000) (A := 112589990685) (b := p) (B := 1000000) (by omega) (by omega) h3 h4
  have hr := mul_bd (a := a % 10000) (A := 9999) (b := p) (B := 1000000) (by omega) (by omega) h3 h4
  have hs := part_split a p
  simp only [fix_Part.j0, Int.tmod_eq_emod_of_nonneg h1, Int.tdiv_eq_ediv_of_nonneg h1]
  rw [if_neg (by decide), w64 (by omega) (by omega), down_eq _ (by omega) (by omega)]
  simp only [Option.bind_some]
  rw [w64 (n := a / 10000) (by omega) (by omega), w64 (n := a / 10000 * p) (by omega) (by omega), w64 (by omega) (by omega), hs, fits_eq]
  simp only [Option.bind_some]
  by_cases hf : -1125899906842624 ≤ part a p ∧ part a p ≤ 1125899906842624
  · rw [decide_eq_true hf]; simp [hf]
  · rw [decide_eq_false hf]; simp [hf]
theorem part_pos {a p : Int} (h1 : 0 ≤ a) (h2 : a ≤ 1099511627776) (h3 : 0 ≤ p) (h4 : p ≤ 1000000) : 0 ≤ part a p ∧ part a p ≤ 109951162777600 ∧ 0 ≤ a * p ∧ a * p ≤ 1099511627776000000 := by
  have h := mul_bd h1 h2 (by omega : -1000000 ≤ p) h4
  have h0 : 0 ≤ a * p := Int.mul_nonneg h1 h3
  unfold part
  omega
theorem FixRounds : decoupagelaw01_FixRounds.Pure := by
  intro a0 a1 a2 h0 h1 h2
  refine ⟨2, ?_⟩
  unfold decoupagelaw01_FixRounds.f
  rw [awake_ok 2 (by omega)]
  simp only [Option.bind_some, if_true]
  have hj : decoupagelaw01_FixRounds.j0 2 a0 a1 a2 true = some true := by
    simp only [decoupagelaw01_FixRounds.j0, if_true]
    rw [awake_ok 1 (by omega)]; rfl
  by_cases c1 : a0 < 0
  · rw [if_pos c1]; exact hj
  by_cases c2 : a1 < a0
  · rw [if_neg c1, if_pos c2]; exact hj
  by_cases c3 : a1 > 1099511627776
  · rw [if_neg c1, if_neg c2, if_pos c3]; exact hj
  by_cases c4 : a2 < 0
  · rw [if_neg c1, if_neg c2, if_neg c3, if_pos c4]; exact hj
  rw [if_neg c1, if_neg c2, if_neg c3, if_neg c4]
  by_cases c5 : a2 > 1000000
  · rw [decide_eq_true c5]; exact hj
  rw [decide_eq_false c5]
  have p0 := part_pos (a := a0) (p := a2) (by omega) (by omega) (by omega) (by omega)
  have p1 := part_pos (a := a1) (p := a2) (by omega) (by omega) (by omega) (by omega)
  simp only [decoupagelaw01_FixRounds.j0]
  rw [if_neg (by decide), part_ok a0 a2 (by omega) (by omega) (by omega) (by omega) 1 (by omega), if_pos (by omega), part_ok a1 a2 (by omega) (by omega) (by omega) (by omega) 1 (by omega), if_pos (by omega)]
  simp only [Option.bind_some, if_true]
  have hm : a0 * a2 ≤ a1 * a2 := Int.mul_le_mul_of_nonneg_right (by omega) (by omega)
  have e0 : part a0 a2 = a0 * a2 / 10000 := rfl
  have e1 : part a1 a2 = a1 * a2 / 10000 := rfl
  rw [if_pos (by omega), w64 (by omega) (by omega), w64 (by omega) (by omega), if_pos (by omega), w64 (by omega) (by omega), decide_eq_true (by omega)]

end Go.Proofs.Ytmfmpfneekngaaa.Pure
