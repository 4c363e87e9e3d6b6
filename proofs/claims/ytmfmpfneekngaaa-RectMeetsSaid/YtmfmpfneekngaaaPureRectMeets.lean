/- What is proved: Meet gives the specified rectangle, symmetrically, and it is inside both. Conditions: none. -/
import Derived.Test.YtmfmpfneekngaaaPRectMeetsx
import Derived.Test.YtmfmpfneekngaaaOpens
namespace Go.Proofs.Ytmfmpfneekngaaa.Pure
open Go.RowKit Go.Proofs.Ytmfmpfneekngaaa.PRectMeets Go.Proofs.YtmfmpfneekngaaaW.PrintWords Go.Proofs.YtmfmpfneekngaaaW.PrintLast
open Go.Proofs.Ytmfmpfneekngaaa.Opens

/-! ### A rectangle's points, in plain words -/
/-- No point is in it. -/
def emp (r : S30) : Prop := r.f0 ≥ r.f2 ∨ r.f1 ≥ r.f3
instance (r : S30) : Decidable (emp r) := by unfold emp; exact inferInstance
/-- A point is in it. -/
def has (r : S30) (x y : Int) : Prop := r.f0 ≤ x ∧ x < r.f2 ∧ r.f1 ≤ y ∧ y < r.f3
instance (r : S30) (x y : Int) : Decidable (has r x y) := by unfold has; exact inferInstance
theorem empty_eq (r : S30) : rect_Empty.f r.f0 r.f1 r.f2 r.f3 = some (decide (emp r)) := by
  unfold rect_Empty.f emp
  by_cases h : r.f0 ≥ r.f2
  · rw [if_pos h]; simp [h]
  · rw [if_neg h]; simp [h]

theorem holds_eq (r : S30) (x y : Int) : rect_Holds.f r.f0 r.f1 r.f2 r.f3 x y = some (decide (has r x y)) := by
  unfold rect_Holds.f has
  by_cases h1 : x ≥ r.f0
  · by_cases h2 : x < r.f2
    · by_cases h3 : y ≥ r.f1
      · rw [if_pos h1, if_pos h2, if_pos h3]; simp [h1, h2, h3]
      · rw [if_pos h1, if_pos h2, if_neg h3]; simp [h3]
    · rw [if_pos h1, if_neg h2]; simp [h2]
  · rw [if_neg h1]; simp [h1]

theorem rholds_eq (r : S30) (x y : Int) : decoupageref02_Holds.f r.f0 r.f1 r.f2 r.f3 x y = some (decide (has r x y)) := by
  unfold decoupageref02_Holds.f has
  by_cases h1 : r.f0 ≤ x
  · by_cases h2 : x < r.f2
    · by_cases h3 : r.f1 ≤ y
      · rw [if_pos h1, if_pos h2, if_pos h3]; simp [h1, h2, h3]
      · rw [if_pos h1, if_pos h2, if_neg h3]; simp [h3]
    · rw [if_pos h1, if_neg h2]; simp [h2]
  · rw [if_neg h1]; simp [h1]

theorem rempty_eq (r : S30) : decoupageref02_Empty.f r.f0 r.f1 r.f2 r.f3 = some (decide (emp r)) := by
  unfold decoupageref02_Empty.f
  rw [rholds_eq]
  simp only [Option.bind_some]
  by_cases h : emp r
  · have h1 : ¬ has r r.f0 r.f1 := by unfold emp at h; unfold has; omega
    simp [h, h1]
  · have h1 : has r r.f0 r.f1 := by unfold emp at h; unfold has; omega
    simp [h, h1]

/-- What two have in common. -/
def meet (a b : S30) : S30 :=
  if emp ⟨mx a.f0 b.f0, mx a.f1 b.f1, mn a.f2 b.f2, mn a.f3 b.f3⟩ then ⟨0, 0, 0, 0⟩ else ⟨mx a.f0 b.f0, mx a.f1 b.f1, mn a.f2 b.f2, mn a.f3 b.f3⟩
theorem meet_eq (a b : S30) : rect_Meet.f a.f0 a.f1 a.f2 a.f3 b.f0 b.f1 b.f2 b.f3 = some ((meet a b).f0, (meet a b).f1, (meet a b).f2, (meet a b).f3) := by
  unfold rect_Meet.f meet
  have h := empty_eq ⟨mx a.f0 b.f0, mx a.f1 b.f1, mn a.f2 b.f2, mn a.f3 b.f3⟩
  rw [h]
  simp only [Option.bind_some]
  by_cases h1 : emp ⟨mx a.f0 b.f0, mx a.f1 b.f1, mn a.f2 b.f2, mn a.f3 b.f3⟩
  · simp [h1]
  · simp [h1]
theorem mx_le {a b c : Int} : mx a b ≤ c ↔ a ≤ c ∧ b ≤ c := by unfold mx; split <;> omega
theorem lt_mn {a b c : Int} : c < mn a b ↔ c < a ∧ c < b := by unfold mn; split <;> omega
theorem mx_or (a b : Int) : mx a b = a ∧ b ≤ a ∨ mx a b = b ∧ a ≤ b := by unfold mx; split <;> omega
theorem mn_or (a b : Int) : mn a b = a ∧ a ≤ b ∨ mn a b = b ∧ b ≤ a := by unfold mn; split <;> omega
theorem has_meet (a b : S30) (x y : Int) : has (meet a b) x y ↔ has a x y ∧ has b x y := by
  unfold meet
  have e0 := mx_or a.f0 b.f0; have e1 := mx_or a.f1 b.f1; have e2 := mn_or a.f2 b.f2; have e3 := mn_or a.f3 b.f3
  split
  · rename_i h; unfold emp at h; unfold has; simp only at h ⊢; omega
  · rename_i h; unfold emp at h; unfold has; simp only at h ⊢; omega

theorem awake_ok (k : Nat) (hk : 8 ≤ k) : decoupagelaw02_awake.f k = some true :=
  at_rounds (g := fun k => decoupagelaw02_awake.f k) (fun k => decoupagelaw02_awake.mono k) hk (by decide +kernel)

/-- Its numbers are whole numbers of their kinds. -/
def Q30 (x : S30) : Prop := I64 x.f0 ∧ I64 x.f1 ∧ I64 x.f2 ∧ I64 x.f3

/-- All points of a are in b. -/
def ins (a b : S30) : Prop := emp a ∨ (a.f0 ≥ b.f0 ∧ a.f2 ≤ b.f2 ∧ a.f1 ≥ b.f1 ∧ a.f3 ≤ b.f3)
instance (a b : S30) : Decidable (ins a b) := by unfold ins; exact inferInstance
theorem ins_eq (a b : S30) : rect_Inside.f a.f0 a.f1 a.f2 a.f3 b.f0 b.f1 b.f2 b.f3 = some (decide (ins a b)) := by
  unfold rect_Inside.f ins
  rw [empty_eq]
  simp only [Option.bind_some]
  by_cases h0 : emp a
  · rw [if_pos (by simpa using h0)]; simp [h0]
  rw [if_neg (by simpa using h0)]
  by_cases h1 : a.f0 ≥ b.f0
  · by_cases h2 : a.f2 ≤ b.f2
    · by_cases h3 : a.f1 ≥ b.f1
      · rw [if_pos h1, if_pos h2, if_pos h3]; simp [h0, h1, h2, h3]
      · rw [if_pos h1, if_pos h2, if_neg h3]; simp [h0, h3]
    · rw [if_pos h1, if_neg h2]; simp [h0, h2]
  · rw [if_neg h1]; simp [h0, h1]

theorem rmeet_eq (a b : S30) (k : Nat) (hk : 3 ≤ k) : decoupageref02_Meet.f k a.f0 a.f1 a.f2 a.f3 b.f0 b.f1 b.f2 b.f3 = some ((meet a b).f0, (meet a b).f1, (meet a b).f2, (meet a b).f3) := by
  obtain ⟨k, rfl⟩ : ∃ m, k = m + 3 := ⟨k - 3, by omega⟩
  have hE : ∀ p q r s : Int, decoupageref02_Empty.f p q r s = some (decide (emp ⟨p, q, r, s⟩)) := fun p q r s => rempty_eq ⟨p, q, r, s⟩
  unfold decoupageref02_Meet.f meet
  simp only [decoupageref02_Meet.j0, decoupageref02_Meet.j1, decoupageref02_Meet.j2, hE, Option.bind_some, mx, mn]
  simp only [gt_iff_lt]
  by_cases h0 : a.f0 < b.f0 <;> by_cases h1 : a.f1 < b.f1 <;> by_cases h2 : b.f2 < a.f2 <;> by_cases h3 : b.f3 < a.f3 <;>
    simp only [h0, h1, h2, h3, if_true, if_false] <;> split <;> simp_all

theorem rins_eq (a b : S30) (ha : Q30 a) : decoupageref02_Inside.f a.f0 a.f1 a.f2 a.f3 b.f0 b.f1 b.f2 b.f3 = some (decide (ins a b)) := by
  have hH : ∀ x y : Int, decoupageref02_Holds.f b.f0 b.f1 b.f2 b.f3 x y = some (decide (has b x y)) := fun x y => rholds_eq b x y
  unfold decoupageref02_Inside.f
  rw [rempty_eq, hH, hH]
  simp only [Option.bind_some]
  unfold Q30 I64 at ha
  by_cases h0 : emp a
  · have h1 : ins a b := .inl h0
    simp [h0, h1]
  have h0' := h0
  unfold emp at h0'
  have e2 : wrap64 (a.f2 - 1) = a.f2 - 1 := by unfold wrap64; omega
  have e3 : wrap64 (a.f3 - 1) = a.f3 - 1 := by unfold wrap64; omega
  rw [e2, e3]
  have key : ins a b ↔ has b a.f0 a.f1 ∧ has b (a.f2 - 1) (a.f3 - 1) := by
    constructor
    · rintro (h | h)
      · exact absurd h h0
      · unfold has; omega
    · intro h
      right
      unfold has at h
      omega
  by_cases h1 : has b a.f0 a.f1 <;> simp [h0, h1, key]

theorem meet_comm (a b : S30) : meet a b = meet b a := by
  have hm : ∀ x y : Int, mx x y = mx y x := fun x y => by unfold mx; split <;> split <;> omega
  have hn : ∀ x y : Int, mn x y = mn y x := fun x y => by unfold mn; split <;> split <;> omega
  unfold meet
  rw [hm a.f0, hm a.f1, hn a.f2, hn a.f3]
theorem meet_ins (a b : S30) : ins (meet a b) a := by
  unfold ins meet
  have e0 := mx_or a.f0 b.f0; have e1 := mx_or a.f1 b.f1; have e2 := mn_or a.f2 b.f2; have e3 := mn_or a.f3 b.f3
  split
  · left; unfold emp; simp
  · right; simp only; omega
theorem RectMeets : ∀ (a0 : S30) (a1 : S30), Q30 a0 → Q30 a1 → ∃ k, decoupagelaw02_RectMeets.f k a0.f0 a0.f1 a0.f2 a0.f3 a1.f0 a1.f1 a1.f2 a1.f3 = some true := by
  intro a b ha _
  refine ⟨8, ?_⟩
  unfold decoupagelaw02_RectMeets.f
  rw [awake_ok 8 (by omega), meet_eq, rmeet_eq _ _ 8 (by omega), meet_eq, meet_comm b a]
  simp only [Option.bind_some, if_true, beq_self_eq_true, Bool.and_self]
  rw [ins_eq (meet a b) a, ins_eq (meet a b) b, ins_eq, rins_eq a b ha]
  simp only [Option.bind_some, meet_ins, decide_true, if_true]
  rw [meet_comm a b]
  simp only [meet_ins, decide_true, if_true, beq_self_eq_true]

end Go.Proofs.Ytmfmpfneekngaaa.Pure
