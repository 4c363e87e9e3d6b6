/- What is proved: Inside is true exactly if every point of the one is in the other. Conditions: none. -/
import Derived.Test.YtmfmpfneekngaaaPRectInsidex
import Derived.Test.YtmfmpfneekngaaaOpens
namespace Go.Proofs.Ytmfmpfneekngaaa.Pure
open Go.RowKit Go.Proofs.Ytmfmpfneekngaaa.PRectInside Go.Proofs.YtmfmpfneekngaaaW.PrintWords Go.Proofs.YtmfmpfneekngaaaW.PrintLast
open Go.Proofs.Ytmfmpfneekngaaa.Opens

/-! ### A rectangle's points, in plain words -/
/-- No point is in it. -/
def emp (r : S30) : Prop := r.f0 ≥ r.f2 ∨ r.f1 ≥ r.f3
instance (r : S30) : Decidable (emp r) := by unfold emp; exact inferInstance
/-- A point is in it. -/
def has (r : S30) (x y : Int) : Prop := r.f0 ≤ x ∧ x < r.f2 ∧ r.f1 ≤ y ∧ y < r.f3
instance (r : S30) (x y : Int) : Decidable (has r x y) := by unfold has; exact inferInstance
theorem empty_eq (r : S30) : rect_Empty.f r.f0 r.f1 r.f2 r.f3 = some (decide (emp r)) := by
  unfold rect_Empty.f emp
  by_cases h : r.f0 ≥ r.f2
  · rw [if_pos h]; simp [h]
  · rw [if_neg h]; simp [h]

theorem holds_eq (r : S30) (x y : Int) : rect_Holds.f r.f0 r.f1 r.f2 r.f3 x y = some (decide (has r x y)) := by
  unfold rect_Holds.f has
  by_cases h1 : x ≥ r.f0
  · by_cases h2 : x < r.f2
    · by_cases h3 : y ≥ r.f1
      · rw [if_pos h1, if_pos h2, if_pos h3]; simp [h1, h2, h3]
      · rw [if_pos h1, if_pos h2, if_neg h3]; simp [h3]
    · rw [if_pos h1, if_neg h2]; simp [h2]
  · rw [if_neg h1]; simp [h1]

/-- What two have in common. -/
def meet (a b : S30) : S30 :=
  if emp ⟨mx a.f0 b.f0, mx a.f1 b.f1, mn a.f2 b.f2, mn a.f3 b.f3⟩ then ⟨0, 0, 0, 0⟩ else ⟨mx a.f0 b.f0, mx a.f1 b.f1, mn a.f2 b.f2, mn a.f3 b.f3⟩
theorem meet_eq (a b : S30) : rect_Meet.f a.f0 a.f1 a.f2 a.f3 b.f0 b.f1 b.f2 b.f3 = some ((meet a b).f0, (meet a b).f1, (meet a b).f2, (meet a b).f3) := by
  unfold rect_Meet.f meet
  have h := empty_eq ⟨mx a.f0 b.f0, mx a.f1 b.f1, mn a.f2 b.f2, mn a.f3 b.f3⟩
  rw [h]
  simp only [Option.bind_some]
  by_cases h1 : emp ⟨mx a.f0 b.f0, mx a.f1 b.f1, mn a.f2 b.f2, mn a.f3 b.f3⟩
  · simp [h1]
  · simp [h1]
theorem mx_le {a b c : Int} : mx a b ≤ c ↔ a ≤ c ∧ b ≤ c := by unfold mx; split <;> omega
theorem lt_mn {a b c : Int} : c < mn a b ↔ c < a ∧ c < b := by unfold mn; split <;> omega
theorem mx_or (a b : Int) : mx a b = a ∧ b ≤ a ∨ mx a b = b ∧ a ≤ b := by unfold mx; split <;> omega
theorem mn_or (a b : Int) : mn a b = a ∧ a ≤ b ∨ mn a b = b ∧ b ≤ a := by unfold mn; split <;> omega
theorem has_meet (a b : S30) (x y : Int) : has (meet a b) x y ↔ has a x y ∧ has b x y := by
  unfold meet
  have e0 := mx_or a.f0 b.f0; have e1 := mx_or a.f1 b.f1; have e2 := mn_or a.f2 b.f2; have e3 := mn_or a.f3 b.f3
  split
  · rename_i h; unfold emp at h; unfold has; simp only at h ⊢; omega
  · rename_i h; unfold emp at h; unfold has; simp only at h ⊢; omega

theorem awake_ok (k : Nat) (hk : 8 ≤ k) : decoupagelaw02_awake.f k = some true :=
  at_rounds (g := fun k => decoupagelaw02_awake.f k) (fun k => decoupagelaw02_awake.mono k) hk (by decide +kernel)

/-- Its numbers are whole numbers of their kinds. -/
def Q30 (x : S30) : Prop := I64 x.f0 ∧ I64 x.f1 ∧ I64 x.f2 ∧ I64 x.f3

/-- All points of a are in b. -/
def ins (a b : S30) : Prop := emp a ∨ (a.f0 ≥ b.f0 ∧ a.f2 ≤ b.f2 ∧ a.f1 ≥ b.f1 ∧ a.f3 ≤ b.f3)
instance (a b : S30) : Decidable (ins a b) := by unfold ins; exact inferInstance
theorem ins_eq (a b : S30) : rect_Inside.f a.f0 a.f1 a.f2 a.f3 b.f0 b.f1 b.f2 b.f3 = some (decide (ins a b)) := by
  unfold rect_Inside.f ins
  rw [empty_eq]
  simp only [Option.bind_some]
  by_cases h0 : emp a
  · rw [if_pos (by simpa using h0)]; simp [h0]
  rw [if_neg (by simpa using h0)]
  by_cases h1 : a.f0 ≥ b.f0
  · by_cases h2 : a.f2 ≤ b.f2
    · by_cases h3 : a.f1 ≥ b.f1
      · rw [if_pos h1, if_pos h2, if_pos h3]; simp [h0, h1, h2, h3]
      · rw [if_pos h1, if_pos h2, if_neg h3]; simp [h0, h3]
    · rw [if_pos h1, if_neg h2]; simp [h0, h2]
  · rw [if_neg h1]; simp [h0, h1]

theorem same_eq (a b : S30) : rect_Same.f a.f0 a.f1 a.f2 a.f3 b.f0 b.f1 b.f2 b.f3 = some (decide (ins a b) && decide (ins b a)) := by
  unfold rect_Same.f
  rw [ins_eq, ins_eq]
  simp only [Option.bind_some]
  by_cases h : ins a b <;> simp [h]
theorem meet_ne (a b : S30) (h : ¬ ins a b) : ¬ ((meet a b).f0 = a.f0 ∧ (meet a b).f1 = a.f1 ∧ (meet a b).f2 = a.f2 ∧ (meet a b).f3 = a.f3) := by
  unfold ins emp at h
  unfold meet
  have e0 := mx_or a.f0 b.f0; have e1 := mx_or a.f1 b.f1; have e2 := mn_or a.f2 b.f2; have e3 := mn_or a.f3 b.f3
  split
  · simp only; omega
  · simp only; omega
theorem RectInside : ∀ (a0 : S30) (a1 : S30) (a2 : Int) (a3 : Int), Q30 a0 → Q30 a1 → I64 a2 → I64 a3 → ∃ k, decoupagelaw02_RectInside.f k a0.f0 a0.f1 a0.f2 a0.f3 a1.f0 a1.f1 a1.f2 a1.f3 a2 a3 = some true := by
  intro a b x y _ _ _ _
  refine ⟨8, ?_⟩
  have hj : decoupagelaw02_RectInside.j0 8 (decide (ins a b)) false a.f0 a.f1 a.f2 a.f3 b.f0 b.f1 b.f2 b.f3 = some true := by
    simp only [decoupagelaw02_RectInside.j0]
    rw [if_neg (by decide), ins_eq, ins_eq, same_eq, meet_eq]
    simp only [Option.bind_some]
    by_cases h : ins a b
    · simp [h]
    · have h2 := meet_ne a b h
      simp only [h, decide_false, Bool.false_and, beq_self_eq_true, if_true, if_false, Bool.false_eq_true]
      congr 1
      simp only [Bool.or_eq_true, Bool.not_eq_true', beq_eq_false_iff_ne, ne_eq]
      by_cases g0 : (meet a b).f0 = a.f0 <;> by_cases g1 : (meet a b).f1 = a.f1 <;> by_cases g2 : (meet a b).f2 = a.f2 <;> by_cases g3 : (meet a b).f3 = a.f3 <;> simp_all
  unfold decoupagelaw02_RectInside.f
  rw [awake_ok 8 (by omega), ins_eq, holds_eq, holds_eq]
  simp only [Option.bind_some, if_true]
  by_cases h : ins a b
  · rw [if_pos (by simpa using h)]
    by_cases h2 : has a x y
    · rw [if_pos (by simpa using h2)]
      have h3 : has b x y := by unfold ins emp at h; unfold has at h2 ⊢; omega
      rw [decide_eq_true h3]
      exact hj
    · rw [if_neg (by simpa using h2)]
      exact hj
  · rw [if_neg (by simpa using h)]
    exact hj

end Go.Proofs.Ytmfmpfneekngaaa.Pure
