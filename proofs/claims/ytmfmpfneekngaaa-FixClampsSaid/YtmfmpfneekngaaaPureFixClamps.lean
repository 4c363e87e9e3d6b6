/- What is proved: Half and Clamp of the program are the document's. Conditions: none. -/
import Derived.Test.YtmfmpfneekngaaaPFixClampsx
import Derived.OpenShut
namespace Go.Proofs.Ytmfmpfneekngaaa.Pure
open Go.RowKit Go.Proofs.Ytmfmpfneekngaaa.PFixClamps Go.Proofs.YtmfmpfneekngaaaW.PrintWords Go.Proofs.YtmfmpfneekngaaaW.PrintLast

/-! ### awake, Fits -/
theorem awake_ok (k : Nat) (hk : 1 ≤ k) : decoupagelaw01_awake.f k = some true := by
  exact at_rounds (g := fun k => decoupagelaw01_awake.f k) (fun k => decoupagelaw01_awake.mono k) hk (by decide +kernel)
theorem fits_eq (a : Int) : fix_Fits.f a = some (decide (-1125899906842624 ≤ a ∧ a ≤ 1125899906842624)) := by
  unfold fix_Fits.f
  by_cases h : a ≥ -1125899906842624
  · rw [if_pos h]; simp [h]
  · rw [if_neg h]; simp [show ¬ (-1125899906842624 ≤ a) by omega]

theorem tdiv2 {a : Int} (h : a < 0) : Int.tdiv a 2 = -((-a) / 2) := by
  rw [← Int.tdiv_eq_ediv_of_nonneg (by omega), Int.neg_tdiv, Int.neg_neg]
theorem tmod2 {a : Int} (h : a < 0) : Int.tmod a 2 = -((-a) % 2) := by
  have := Int.tmod_add_mul_tdiv a 2
  rw [tdiv2 h] at this
  omega
theorem half_eq (a : Int) (h1 : -9223372036854775808 ≤ a) (h2 : a ≤ 9223372036854775807) : decoupageref01_Half.f a = fix_Half.f a := by
  unfold decoupageref01_Half.f fix_Half.f
  by_cases h : a < 0
  · rw [if_pos h, tmod2 h, tdiv2 h]
    by_cases h3 : -(-a % 2) = 0
    · rw [if_pos h3]; unfold wrap64; congr 1; omega
    · rw [if_neg h3]; unfold wrap64; congr 1; omega
  · rw [if_neg h, Int.tdiv_eq_ediv_of_nonneg (by omega)]; unfold wrap64; congr 1; omega
theorem clamp_eq (a b c : Int) : decoupageref01_Clamp.f a b c = fix_Clamp.f a b c := by
  unfold decoupageref01_Clamp.f fix_Clamp.f mx mn
  by_cases h1 : a > c <;> by_cases h2 : c < b <;> by_cases h3 : a < b <;> simp [h1, h2, h3]
theorem FixClamps : decoupagelaw01_FixClamps.Pure := by
  intro a0 a1 a2 h0 h1 h2
  have b0 := bounds_i64 h0
  refine ⟨1, ?_⟩
  unfold decoupagelaw01_FixClamps.f
  rw [awake_ok 1 (by omega), clamp_eq, half_eq a0 b0.1 b0.2]
  unfold fix_Clamp.f fix_Half.f
  simp only [Option.bind_some, if_true]
  by_cases h : a1 > a2
  · rw [if_pos h]; simp
  · rw [if_neg h, if_pos (by unfold mx; split <;> omega), if_pos (by unfold mx mn; (repeat' split) <;> omega)]; simp

end Go.Proofs.Ytmfmpfneekngaaa.Pure
