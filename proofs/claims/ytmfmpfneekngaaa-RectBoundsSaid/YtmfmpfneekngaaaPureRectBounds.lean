/- What is proved: Bound gives the least rectangle around all. Conditions: none. -/
import Derived.Test.YtmfmpfneekngaaaMRectBounds
import Derived.Test.YtmfmpfneekngaaaOpens
namespace Go.Proofs.Ytmfmpfneekngaaa.Pure
open Go.RowKit Go.Proofs.Ytmfmpfneekngaaa.PRectBounds Go.Proofs.YtmfmpfneekngaaaW.PrintWords Go.Proofs.YtmfmpfneekngaaaW.PrintLast
set_option linter.unusedSimpArgs false
set_option linter.unusedVariables false
open Go.Proofs.Ytmfmpfneekngaaa.Opens

/-! ### A rectangle's points, in plain words -/
/-- No point is in it. -/
def emp (r : S30) : Prop := r.f0 ≥ r.f2 ∨ r.f1 ≥ r.f3
instance (r : S30) : Decidable (emp r) := by unfold emp; exact inferInstance
/-- A point is in it. -/
def has (r : S30) (x y : Int) : Prop := r.f0 ≤ x ∧ x < r.f2 ∧ r.f1 ≤ y ∧ y < r.f3
instance (r : S30) (x y : Int) : Decidable (has r x y) := by unfold has; exact inferInstance

theorem empty_eq (r : S30) : rect_Empty.f r.f0 r.f1 r.f2 r.f3 = some (decide (emp r)) := by
  unfold rect_Empty.f emp
  by_cases h : r.f0 ≥ r.f2
  · rw [if_pos h]; simp [h]
  · rw [if_neg h]; simp [h]

theorem holds_eq (r : S30) (x y : Int) : rect_Holds.f r.f0 r.f1 r.f2 r.f3 x y = some (decide (has r x y)) := by
  unfold rect_Holds.f has
  by_cases h1 : x ≥ r.f0
  · by_cases h2 : x < r.f2
    · by_cases h3 : y ≥ r.f1
      · rw [if_pos h1, if_pos h2, if_pos h3]; simp [h1, h2, h3]
      · rw [if_pos h1, if_pos h2, if_neg h3]; simp [h3]
    · rw [if_pos h1, if_neg h2]; simp [h2]
  · rw [if_neg h1]; simp [h1]

theorem rholds_eq (r : S30) (x y : Int) : decoupageref02_Holds.f r.f0 r.f1 r.f2 r.f3 x y = some (decide (has r x y)) := by
  unfold decoupageref02_Holds.f has
  by_cases h1 : r.f0 ≤ x
  · by_cases h2 : x < r.f2
    · by_cases h3 : r.f1 ≤ y
      · rw [if_pos h1, if_pos h2, if_pos h3]; simp [h1, h2, h3]
      · rw [if_pos h1, if_pos h2, if_neg h3]; simp [h3]
    · rw [if_pos h1, if_neg h2]; simp [h2]
  · rw [if_neg h1]; simp [h1]

theorem rempty_eq (r : S30) : decoupageref02_Empty.f r.f0 r.f1 r.f2 r.f3 = some (decide (emp r)) := by
  unfold decoupageref02_Empty.f
  rw [rholds_eq]
  simp only [Option.bind_some]
  by_cases h : emp r
  · have h1 : ¬ has r r.f0 r.f1 := by unfold emp at h; unfold has; omega
    simp [h, h1]
  · have h1 : has r r.f0 r.f1 := by unfold emp at h; unfold has; omega
    simp [h, h1]

theorem mx_or (a b : Int) : mx a b = a ∧ b ≤ a ∨ mx a b = b ∧ a ≤ b := by unfold mx; split <;> omega
theorem mn_or (a b : Int) : mn a b = a ∧ a ≤ b ∨ mn a b = b ∧ b ≤ a := by unfold mn; split <;> omega

theorem awake_ok (k : Nat) (hk : 8 ≤ k) : decoupagelaw02_awake.f k = some true :=
  at_rounds (g := fun k => decoupagelaw02_awake.f k) (fun k => decoupagelaw02_awake.mono k) hk (by decide +kernel)

/-- Its numbers are whole numbers of their kinds. -/
def Q30 (x : S30) : Prop := I64 x.f0 ∧ I64 x.f1 ∧ I64 x.f2 ∧ I64 x.f3

/-- All points of a are in b. -/
def ins (a b : S30) : Prop := emp a ∨ (a.f0 ≥ b.f0 ∧ a.f2 ≤ b.f2 ∧ a.f1 ≥ b.f1 ∧ a.f3 ≤ b.f3)
instance (a b : S30) : Decidable (ins a b) := by unfold ins; exact inferInstance
theorem ins_eq (a b : S30) : rect_Inside.f a.f0 a.f1 a.f2 a.f3 b.f0 b.f1 b.f2 b.f3 = some (decide (ins a b)) := by
  unfold rect_Inside.f ins
  rw [empty_eq]
  simp only [Option.bind_some]
  by_cases h0 : emp a
  · rw [if_pos (by simpa using h0)]; simp [h0]
  rw [if_neg (by simpa using h0)]
  by_cases h1 : a.f0 ≥ b.f0
  · by_cases h2 : a.f2 ≤ b.f2
    · by_cases h3 : a.f1 ≥ b.f1
      · rw [if_pos h1, if_pos h2, if_pos h3]; simp [h0, h1, h2, h3]
      · rw [if_pos h1, if_pos h2, if_neg h3]; simp [h0, h3]
    · rw [if_pos h1, if_neg h2]; simp [h0, h2]
  · rw [if_neg h1]; simp [h0, h1]

/-! ### A loop over a list, place by place -/
theorem w64 {n : Int} (h1 : -9223372036854775808 ≤ n) (h2 : n ≤ 9223372036854775807) : wrap64 n = n := by unfold wrap64; omega
theorem mid_lt {α : Type} (l1 : List α) (x : α) (l2 : List α) : ((l1.length : Int) < ((l1 ++ x :: l2).length : Int)) := by simp; omega
theorem mid_ge {α : Type} (l1 : List α) : ¬ ((l1.length : Int) < ((l1 ++ []).length : Int)) := by simp
theorem mid_next {α : Type} (l1 : List α) (x : α) (l2 : List α) (h : (l1 ++ x :: l2).length ≤ 4611686018427387904) : wrap64 ((l1.length : Int) + 1) = ((l1 ++ [x]).length : Int) := by
  simp at h ⊢
  rw [w64 (by omega) (by omega)]
theorem mid_app {α : Type} (l1 : List α) (x : α) (l2 : List α) : l1 ++ x :: l2 = (l1 ++ [x]) ++ l2 := by simp

theorem rd_mid (l1 : List S30) (x : S30) (l2 : List S30) : rd_T30 (l1 ++ x :: l2) (l1.length : Int) = x := by
  unfold rd_T30
  simp

/-! ### The least rectangle around some -/
/-- One more. -/
def step (o r : S30) : S30 := if emp r then o else if emp o then r else ⟨mn o.f0 r.f0, mn o.f1 r.f1, mx o.f2 r.f2, mx o.f3 r.f3⟩
theorem bndl (l2 : List S30) : ∀ (l1 : List S30) (o : S30) (k : Nat), l2.length < k → (l1 ++ l2).length ≤ 4611686018427387904 →
    rect_Bound.l0 k (l1 ++ l2) ((l1 ++ l2).length : Int) (l1.length : Int) o.f0 o.f1 o.f2 o.f3 = some ((l2.foldl step o).f0, (l2.foldl step o).f1, (l2.foldl step o).f2, (l2.foldl step o).f3) := by
  induction l2 with
  | nil =>
    intro l1 o k hk _
    obtain ⟨k, rfl⟩ : ∃ m, k = m + 1 := ⟨k - 1, by omega⟩
    simp only [rect_Bound.l0]
    rw [if_neg (mid_ge _)]
    rfl
  | cons r l2 ih =>
    intro l1 o k hk hn
    obtain ⟨k, rfl⟩ : ∃ m, k = m + 1 := ⟨k - 1, by omega⟩
    simp only [List.length_cons] at hk
    simp only [rect_Bound.l0]
    rw [if_pos (mid_lt _ _ _), if_pos (by omega), if_pos (mid_lt _ _ _), rd_mid, mid_next l1 r l2 hn, empty_eq, empty_eq]
    simp only [Option.bind_some, List.foldl_cons]
    rw [mid_app] at hn ⊢
    by_cases h1 : emp r
    · rw [if_pos (by simpa using h1), show step o r = o by unfold step; rw [if_pos h1]]
      exact ih (l1 ++ [r]) o k (by omega) hn
    · by_cases h2 : emp o
      · rw [if_neg (by simpa using h1), if_pos (by simpa using h2), show step o r = r by unfold step; rw [if_neg h1, if_pos h2]]
        exact ih (l1 ++ [r]) r k (by omega) hn
      · rw [if_neg (by simpa using h1), if_neg (by simpa using h2), show step o r = ⟨mn o.f0 r.f0, mn o.f1 r.f1, mx o.f2 r.f2, mx o.f3 r.f3⟩ by unfold step; rw [if_neg h1, if_neg h2]]
        exact ih (l1 ++ [r]) ⟨mn o.f0 r.f0, mn o.f1 r.f1, mx o.f2 r.f2, mx o.f3 r.f3⟩ k (by omega) hn
theorem rbndl (l2 : List S30) : ∀ (l1 : List S30) (o : S30) (k : Nat), l2.length < k → (l1 ++ l2).length ≤ 4611686018427387904 →
    decoupageref02_Bound.l0 k (l1 ++ l2) (!decide (emp o)) ((l1 ++ l2).length : Int) (l1.length : Int) o.f0 o.f1 o.f2 o.f3 = some ((l2.foldl step o).f0, (l2.foldl step o).f1, (l2.foldl step o).f2, (l2.foldl step o).f3) := by
  induction l2 with
  | nil =>
    intro l1 o k hk _
    obtain ⟨k, rfl⟩ : ∃ m, k = m + 1 := ⟨k - 1, by omega⟩
    simp only [decoupageref02_Bound.l0]
    rw [if_neg (mid_ge _)]
    rfl
  | cons r l2 ih =>
    intro l1 o k hk hn
    obtain ⟨k, rfl⟩ : ∃ m, k = m + 1 := ⟨k - 1, by omega⟩
    simp only [List.length_cons] at hk
    simp only [decoupageref02_Bound.l0]
    rw [if_pos (mid_lt _ _ _), if_pos (by omega), if_pos (mid_lt _ _ _), rd_mid, mid_next l1 r l2 hn, rempty_eq]
    simp only [Option.bind_some, List.foldl_cons]
    rw [mid_app] at hn ⊢
    by_cases h1 : emp r
    · rw [if_pos (by simpa using h1), show step o r = o by unfold step; rw [if_pos h1]]
      exact ih (l1 ++ [r]) o k (by omega) hn
    · by_cases h2 : emp o
      · rw [if_neg (by simpa using h1), if_neg (by simpa using h2), show step o r = r by unfold step; rw [if_neg h1, if_pos h2]]
        have e : ∀ x : Int, mn x x = x ∧ mx x x = x := fun x => ⟨by unfold mn; split <;> rfl, by unfold mx; split <;> rfl⟩
        rw [(e _).1, (e _).1, (e _).2, (e _).2]
        have := ih (l1 ++ [r]) r k (by omega) hn
        simp only [h1, decide_false, Bool.not_false] at this
        exact this
      · rw [if_neg (by simpa using h1), if_pos (by simpa using h2), show step o r = ⟨mn o.f0 r.f0, mn o.f1 r.f1, mx o.f2 r.f2, mx o.f3 r.f3⟩ by unfold step; rw [if_neg h1, if_neg h2]]
        have h3 : ¬ emp ⟨mn o.f0 r.f0, mn o.f1 r.f1, mx o.f2 r.f2, mx o.f3 r.f3⟩ := by
          have e0 := mn_or o.f0 r.f0; have e1 := mn_or o.f1 r.f1; have e2 := mx_or o.f2 r.f2; have e3 := mx_or o.f3 r.f3
          unfold emp at h1 h2 ⊢; simp only; omega
        have := ih (l1 ++ [r]) ⟨mn o.f0 r.f0, mn o.f1 r.f1, mx o.f2 r.f2, mx o.f3 r.f3⟩ k (by omega) hn
        simp only [h3, h2, decide_false, Bool.not_false] at this ⊢
        exact this
/-- Within, side by side. -/
def wi (a b : S30) : Prop := b.f0 ≤ a.f0 ∧ a.f2 ≤ b.f2 ∧ b.f1 ≤ a.f1 ∧ a.f3 ≤ b.f3
theorem step_old {o r : S30} (h : ¬ emp o) : wi o (step o r) ∧ ¬ emp (step o r) := by
  unfold step
  have e0 := mn_or o.f0 r.f0; have e1 := mn_or o.f1 r.f1; have e2 := mx_or o.f2 r.f2; have e3 := mx_or o.f3 r.f3
  split
  · exact ⟨by unfold wi; omega, h⟩
  · rename_i h1
    unfold wi emp at *
    simp only
    omega
theorem step_new {o r : S30} (h : ¬ emp r) : wi r (step o r) ∧ ¬ emp (step o r) := by
  unfold step
  have e0 := mn_or o.f0 r.f0; have e1 := mn_or o.f1 r.f1; have e2 := mx_or o.f2 r.f2; have e3 := mx_or o.f3 r.f3
  rw [if_neg h]
  split
  · exact ⟨by unfold wi; omega, h⟩
  · rename_i h1
    unfold wi emp at *
    simp only
    omega
theorem fold_old (l : List S30) : ∀ o : S30, ¬ emp o → wi o (l.foldl step o) := by
  induction l with
  | nil => intro o _; show wi o o; unfold wi; omega
  | cons r l ih =>
    intro o h
    have h1 := step_old (r := r) h
    have h2 := ih _ h1.2
    rw [List.foldl_cons]
    have h3 := h1.1
    unfold wi at *
    omega
theorem fold_ins (l : List S30) : ∀ (o q : S30), q ∈ l → ins q (l.foldl step o) := by
  induction l with
  | nil => intro o q h; simp at h
  | cons r l ih =>
    intro o q h
    rw [List.foldl_cons]
    rcases List.mem_cons.1 h with rfl | h
    · by_cases h1 : emp q
      · exact .inl h1
      · have h2 := step_new (o := o) h1
        have h3 := fold_old l _ h2.2
        have h4 := h2.1
        right
        unfold wi at *
        omega
    · exact ih _ q h
theorem boundsl (L : List S30) (b : S30) (hb : b = L.foldl step z30) (l2 : List S30) : ∀ (l1 : List S30) (k : Nat), l1 ++ l2 = L → l2.length + L.length + 1 < k → L.length ≤ 4611686018427387904 →
    decoupagelaw02_RectBounds.l0 k L (L.length : Int) (l1.length : Int) b.f0 b.f1 b.f2 b.f3 = some true := by
  induction l2 with
  | nil =>
    rintro l1 k rfl hk hn
    obtain ⟨k, rfl⟩ : ∃ m, k = m + 1 := ⟨k - 1, by omega⟩
    simp only [decoupagelaw02_RectBounds.l0]
    rw [if_neg (mid_ge _)]
    unfold decoupageref02_Bound.f
    have := rbndl (l1 ++ []) [] z30 k (by simp at hk ⊢; omega) (by simpa using hn)
    rw [← hb] at this
    have e : decoupageref02_Bound.l0 k (l1 ++ []) false ((l1 ++ []).length : Int) 0 0 0 0 0 = some (b.f0, b.f1, b.f2, b.f3) := this
    rw [e]
    simp
  | cons r l2 ih =>
    rintro l1 k rfl hk hn
    obtain ⟨k, rfl⟩ : ∃ m, k = m + 1 := ⟨k - 1, by omega⟩
    simp only [List.length_cons] at hk
    simp only [decoupagelaw02_RectBounds.l0]
    rw [if_pos (mid_lt _ _ _), if_pos (by omega), if_pos (mid_lt _ _ _), rd_mid, mid_next l1 r l2 hn, ins_eq r b]
    simp only [Option.bind_some]
    rw [if_pos (by rw [decide_eq_true_eq, hb]; exact fold_ins _ _ r (by simp))]
    exact ih (l1 ++ [r]) k (by simp) (by omega) hn
theorem RectBounds : ∀ (l0 : List S30), (∀ x ∈ l0, Q30 x) → ∃ k, decoupagelaw02_RectBounds.f k l0 = some true := by
  intro l _
  refine ⟨200, ?_⟩
  unfold decoupagelaw02_RectBounds.f
  rw [awake_ok 200 (by omega)]
  simp only [Option.bind_some, if_true, decoupagelaw02_RectBounds.j0]
  by_cases hl : (l.length : Int) > 50
  · rw [if_pos (by simpa using hl), awake_ok 199 (by omega)]; rfl
  rw [if_neg (by simpa using hl)]
  have h1 := bndl l [] z30 199 (by omega) (by simp; omega)
  have e : rect_Bound.f 199 l = some ((l.foldl step z30).f0, (l.foldl step z30).f1, (l.foldl step z30).f2, (l.foldl step z30).f3) := h1
  rw [e]
  simp only [Option.bind_some]
  exact boundsl l _ rfl l [] 199 rfl (by omega) (by omega)

end Go.Proofs.Ytmfmpfneekngaaa.Pure
