/- What is proved: Holds and Meet agree with the definition. Conditions: none. -/
import Derived.Test.YtmfmpfneekngaaaPRectPointsx
import Derived.Test.YtmfmpfneekngaaaOpens
namespace Go.Proofs.Ytmfmpfneekngaaa.Pure
open Go.RowKit Go.Proofs.Ytmfmpfneekngaaa.PRectPoints Go.Proofs.YtmfmpfneekngaaaW.PrintWords Go.Proofs.YtmfmpfneekngaaaW.PrintLast
open Go.Proofs.Ytmfmpfneekngaaa.Opens

/-! ### A rectangle's points, in plain words -/
/-- No point is in it. -/
def emp (r : S30) : Prop := r.f0 ≥ r.f2 ∨ r.f1 ≥ r.f3
instance (r : S30) : Decidable (emp r) := by unfold emp; exact inferInstance
/-- A point is in it. -/
def has (r : S30) (x y : Int) : Prop := r.f0 ≤ x ∧ x < r.f2 ∧ r.f1 ≤ y ∧ y < r.f3
instance (r : S30) (x y : Int) : Decidable (has r x y) := by unfold has; exact inferInstance
theorem empty_eq (r : S30) : rect_Empty.f r.f0 r.f1 r.f2 r.f3 = some (decide (emp r)) := by
  unfold rect_Empty.f emp
  by_cases h : r.f0 ≥ r.f2
  · rw [if_pos h]; simp [h]
  · rw [if_neg h]; simp [h]

theorem holds_eq (r : S30) (x y : Int) : rect_Holds.f r.f0 r.f1 r.f2 r.f3 x y = some (decide (has r x y)) := by
  unfold rect_Holds.f has
  by_cases h1 : x ≥ r.f0
  · by_cases h2 : x < r.f2
    · by_cases h3 : y ≥ r.f1
      · rw [if_pos h1, if_pos h2, if_pos h3]; simp [h1, h2, h3]
      · rw [if_pos h1, if_pos h2, if_neg h3]; simp [h3]
    · rw [if_pos h1, if_neg h2]; simp [h2]
  · rw [if_neg h1]; simp [h1]

theorem rholds_eq (r : S30) (x y : Int) : decoupageref02_Holds.f r.f0 r.f1 r.f2 r.f3 x y = some (decide (has r x y)) := by
  unfold decoupageref02_Holds.f has
  by_cases h1 : r.f0 ≤ x
  · by_cases h2 : x < r.f2
    · by_cases h3 : r.f1 ≤ y
      · rw [if_pos h1, if_pos h2, if_pos h3]; simp [h1, h2, h3]
      · rw [if_pos h1, if_pos h2, if_neg h3]; simp [h3]
    · rw [if_pos h1, if_neg h2]; simp [h2]
  · rw [if_neg h1]; simp [h1]

theorem rempty_eq (r : S30) : decoupageref02_Empty.f r.f0 r.f1 r.f2 r.f3 = some (decide (emp r)) := by
  unfold decoupageref02_Empty.f
  rw [rholds_eq]
  simp only [Option.bind_some]
  by_cases h : emp r
  · have h1 : ¬ has r r.f0 r.f1 := by unfold emp at h; unfold has; omega
    simp [h, h1]
  · have h1 : has r r.f0 r.f1 := by unfold emp at h; unfold has; omega
    simp [h, h1]

/-- What two have in common. -/
def meet (a b : S30) : S30 :=
  if emp ⟨mx a.f0 b.f0, mx a.f1 b.f1, mn a.f2 b.f2, mn a.f3 b.f3⟩ then ⟨0, 0, 0, 0⟩ else ⟨mx a.f0 b.f0, mx a.f1 b.f1, mn a.f2 b.f2, mn a.f3 b.f3⟩
theorem meet_eq (a b : S30) : rect_Meet.f a.f0 a.f1 a.f2 a.f3 b.f0 b.f1 b.f2 b.f3 = some ((meet a b).f0, (meet a b).f1, (meet a b).f2, (meet a b).f3) := by
  unfold rect_Meet.f meet
  have h := empty_eq ⟨mx a.f0 b.f0, mx a.f1 b.f1, mn a.f2 b.f2, mn a.f3 b.f3⟩
  rw [h]
  simp only [Option.bind_some]
  by_cases h1 : emp ⟨mx a.f0 b.f0, mx a.f1 b.f1, mn a.f2 b.f2, mn a.f3 b.f3⟩
  · simp [h1]
  · simp [h1]
theorem mx_le {a b c : Int} : mx a b ≤ c ↔ a ≤ c ∧ b ≤ c := by unfold mx; split <;> omega
theorem lt_mn {a b c : Int} : c < mn a b ↔ c < a ∧ c < b := by unfold mn; split <;> omega
theorem mx_or (a b : Int) : mx a b = a ∧ b ≤ a ∨ mx a b = b ∧ a ≤ b := by unfold mx; split <;> omega
theorem mn_or (a b : Int) : mn a b = a ∧ a ≤ b ∨ mn a b = b ∧ b ≤ a := by unfold mn; split <;> omega
theorem has_meet (a b : S30) (x y : Int) : has (meet a b) x y ↔ has a x y ∧ has b x y := by
  unfold meet
  have e0 := mx_or a.f0 b.f0; have e1 := mx_or a.f1 b.f1; have e2 := mn_or a.f2 b.f2; have e3 := mn_or a.f3 b.f3
  split
  · rename_i h; unfold emp at h; unfold has; simp only at h ⊢; omega
  · rename_i h; unfold emp at h; unfold has; simp only at h ⊢; omega

theorem awake_ok (k : Nat) (hk : 8 ≤ k) : decoupagelaw02_awake.f k = some true :=
  at_rounds (g := fun k => decoupagelaw02_awake.f k) (fun k => decoupagelaw02_awake.mono k) hk (by decide +kernel)

/-- Its numbers are whole numbers of their kinds. -/
def Q30 (x : S30) : Prop := I64 x.f0 ∧ I64 x.f1 ∧ I64 x.f2 ∧ I64 x.f3

theorem RectPoints : ∀ (a0 : S30) (a1 : S30) (a2 : Int) (a3 : Int), Q30 a0 → Q30 a1 → I64 a2 → I64 a3 → ∃ k, decoupagelaw02_RectPoints.f k a0.f0 a0.f1 a0.f2 a0.f3 a1.f0 a1.f1 a1.f2 a1.f3 a2 a3 = some true := by
  intro a b x y _ _ _ _
  refine ⟨8, ?_⟩
  have hj : ∀ i : Bool, i = decide (has a x y ∧ has b x y) → decoupagelaw02_RectPoints.j0 8 x y i a.f0 a.f1 a.f2 a.f3 b.f0 b.f1 b.f2 b.f3 = some true := by
    intro i hi
    simp only [decoupagelaw02_RectPoints.j0]
    rw [holds_eq, rholds_eq, empty_eq, rempty_eq, meet_eq]
    simp only [Option.bind_some, beq_self_eq_true, if_true]
    rw [holds_eq (meet a b)]
    subst hi
    simp [has_meet]
  unfold decoupagelaw02_RectPoints.f
  rw [awake_ok 8 (by omega), rholds_eq, rholds_eq]
  simp only [Option.bind_some, if_true]
  by_cases h : has a x y
  · rw [if_pos (by simpa using h)]
    exact hj _ (by simp [h])
  · rw [if_neg (by simpa using h)]
    exact hj _ (by simp [h])

end Go.Proofs.Ytmfmpfneekngaaa.Pure
