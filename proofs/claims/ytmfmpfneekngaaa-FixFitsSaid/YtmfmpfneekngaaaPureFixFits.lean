/- What is proved: Fits of the program and of the document say the same of every number. Conditions: none. -/
import Derived.Test.YtmfmpfneekngaaaPFixFitsx
import Derived.OpenShut
namespace Go.Proofs.Ytmfmpfneekngaaa.Pure
open Go.RowKit Go.Proofs.Ytmfmpfneekngaaa.PFixFits Go.Proofs.YtmfmpfneekngaaaW.PrintWords Go.Proofs.YtmfmpfneekngaaaW.PrintLast

/-! ### awake, Fits -/
theorem awake_ok (k : Nat) (hk : 1 ≤ k) : decoupagelaw01_awake.f k = some true := by
  exact at_rounds (g := fun k => decoupagelaw01_awake.f k) (fun k => decoupagelaw01_awake.mono k) hk (by decide +kernel)
theorem fits_eq (a : Int) : fix_Fits.f a = some (decide (-1125899906842624 ≤ a ∧ a ≤ 1125899906842624)) := by
  unfold fix_Fits.f
  by_cases h : a ≥ -1125899906842624
  · rw [if_pos h]; simp [h]
  · rw [if_neg h]; simp [show ¬ (-1125899906842624 ≤ a) by omega]

theorem FixFits : decoupagelaw01_FixFits.Pure := by
  intro a0 _
  refine ⟨1, ?_⟩
  have h : decoupageref01_Fits.f a0 = fix_Fits.f a0 := rfl
  unfold decoupagelaw01_FixFits.f
  rw [awake_ok 1 (by omega), h, fits_eq]
  simp

end Go.Proofs.Ytmfmpfneekngaaa.Pure
