/- What is proved: What is left has nothing hidden and nothing covered; what is sifted is no more than what is culled. Conditions: none. -/
import Derived.Test.YtipcledgblodjaaMCullTwice
import Derived.Test.YtipcledgblodjaaOpens
namespace Go.Proofs.Ytipcledgblodjaa.Pure
open Go.RowKit Go.Proofs.Ytipcledgblodjaa.PCullTwice Go.Proofs.YtipcledgblodjaaW.PrintWords Go.Proofs.YtipcledgblodjaaW.PrintLast
set_option linter.unusedSimpArgs false
set_option linter.unusedVariables false
open Go.Proofs.Ytipcledgblodjaa.Opens

/-! ### A rectangle's points, in plain words -/
/-- No point is in it. -/
def emp (r : S24) : Prop := r.f0 ≥ r.f2 ∨ r.f1 ≥ r.f3
instance (r : S24) : Decidable (emp r) := by unfold emp; exact inferInstance
/-- A point is in it. -/
def has (r : S24) (x y : Int) : Prop := r.f0 ≤ x ∧ x < r.f2 ∧ r.f1 ≤ y ∧ y < r.f3
instance (r : S24) (x y : Int) : Decidable (has r x y) := by unfold has; exact inferInstance

theorem empty_eq (r : S24) : rect_Empty.f r.f0 r.f1 r.f2 r.f3 = some (decide (emp r)) := by
  unfold rect_Empty.f emp
  by_cases h : r.f0 ≥ r.f2
  · rw [if_pos h]; simp [h]
  · rw [if_neg h]; simp [h]

theorem rholds_eq (r : S24) (x y : Int) : decoupageref02_Holds.f r.f0 r.f1 r.f2 r.f3 x y = some (decide (has r x y)) := by
  unfold decoupageref02_Holds.f has
  by_cases h1 : r.f0 ≤ x
  · by_cases h2 : x < r.f2
    · by_cases h3 : r.f1 ≤ y
      · rw [if_pos h1, if_pos h2, if_pos h3]; simp [h1, h2, h3]
      · rw [if_pos h1, if_pos h2, if_neg h3]; simp [h3]
    · rw [if_pos h1, if_neg h2]; simp [h2]
  · rw [if_neg h1]; simp [h1]

theorem rempty_eq (r : S24) : decoupageref02_Empty.f r.f0 r.f1 r.f2 r.f3 = some (decide (emp r)) := by
  unfold decoupageref02_Empty.f
  rw [rholds_eq]
  simp only [Option.bind_some]
  by_cases h : emp r
  · have h1 : ¬ has r r.f0 r.f1 := by unfold emp at h; unfold has; omega
    simp [h, h1]
  · have h1 : has r r.f0 r.f1 := by unfold emp at h; unfold has; omega
    simp [h, h1]

/-- What two have in common. -/
def meet (a b : S24) : S24 :=
  if emp ⟨mx a.f0 b.f0, mx a.f1 b.f1, mn a.f2 b.f2, mn a.f3 b.f3⟩ then ⟨0, 0, 0, 0⟩ else ⟨mx a.f0 b.f0, mx a.f1 b.f1, mn a.f2 b.f2, mn a.f3 b.f3⟩
theorem meet_eq (a b : S24) : rect_Meet.f a.f0 a.f1 a.f2 a.f3 b.f0 b.f1 b.f2 b.f3 = some ((meet a b).f0, (meet a b).f1, (meet a b).f2, (meet a b).f3) := by
  unfold rect_Meet.f meet
  have h := empty_eq ⟨mx a.f0 b.f0, mx a.f1 b.f1, mn a.f2 b.f2, mn a.f3 b.f3⟩
  rw [h]
  simp only [Option.bind_some]
  by_cases h1 : emp ⟨mx a.f0 b.f0, mx a.f1 b.f1, mn a.f2 b.f2, mn a.f3 b.f3⟩
  · simp [h1]
  · simp [h1]
theorem mx_le {a b c : Int} : mx a b ≤ c ↔ a ≤ c ∧ b ≤ c := by unfold mx; split <;> omega
theorem lt_mn {a b c : Int} : c < mn a b ↔ c < a ∧ c < b := by unfold mn; split <;> omega
theorem mx_or (a b : Int) : mx a b = a ∧ b ≤ a ∨ mx a b = b ∧ a ≤ b := by unfold mx; split <;> omega
theorem mn_or (a b : Int) : mn a b = a ∧ a ≤ b ∨ mn a b = b ∧ b ≤ a := by unfold mn; split <;> omega
theorem has_meet (a b : S24) (x y : Int) : has (meet a b) x y ↔ has a x y ∧ has b x y := by
  unfold meet
  have e0 := mx_or a.f0 b.f0; have e1 := mx_or a.f1 b.f1; have e2 := mn_or a.f2 b.f2; have e3 := mn_or a.f3 b.f3
  split
  · rename_i h; unfold emp at h; unfold has; simp only at h ⊢; omega
  · rename_i h; unfold emp at h; unfold has; simp only at h ⊢; omega

/-- Its numbers are whole numbers of their kinds. -/
def Q24 (x : S24) : Prop := I64 x.f0 ∧ I64 x.f1 ∧ I64 x.f2 ∧ I64 x.f3

/-! ### A loop over a list, place by place -/
theorem w64 {n : Int} (h1 : -9223372036854775808 ≤ n) (h2 : n ≤ 9223372036854775807) : wrap64 n = n := by unfold wrap64; omega
theorem mid_lt {α : Type} (l1 : List α) (x : α) (l2 : List α) : ((l1.length : Int) < ((l1 ++ x :: l2).length : Int)) := by simp; omega
theorem mid_ge {α : Type} (l1 : List α) : ¬ ((l1.length : Int) < ((l1 ++ []).length : Int)) := by simp
theorem mid_next {α : Type} (l1 : List α) (x : α) (l2 : List α) (h : (l1 ++ x :: l2).length ≤ 4611686018427387904) : wrap64 ((l1.length : Int) + 1) = ((l1 ++ [x]).length : Int) := by
  simp at h ⊢
  rw [w64 (by omega) (by omega)]
theorem mid_app {α : Type} (l1 : List α) (x : α) (l2 : List α) : l1 ++ x :: l2 = (l1 ++ [x]) ++ l2 := by simp

theorem rd_mid (l1 : List S24) (x : S24) (l2 : List S24) : rd_T24 (l1 ++ x :: l2) (l1.length : Int) = x := by
  unfold rd_T24
  simp

/-! ### What is left of one without another one -/
/-- A rectangle has points. -/
def ne (r : S24) : Bool := !decide (emp r)
theorem ne_eq (r : S24) : ne r = decide (r.f0 < r.f2 ∧ r.f1 < r.f3) := by
  unfold ne
  by_cases h : emp r
  · have h2 : ¬ (r.f0 < r.f2 ∧ r.f1 < r.f3) := by unfold emp at h; omega
    rw [decide_eq_true h, decide_eq_false h2]; rfl
  · have h2 : r.f0 < r.f2 ∧ r.f1 < r.f3 := by unfold emp at h; omega
    rw [decide_eq_false h, decide_eq_true h2]; rfl
/-- What is cut out. -/
def cm (a b : S24) : S24 := if emp (meet a b) then ⟨a.f0, a.f3, a.f2, a.f3⟩ else meet a b
/-- The four pieces around what is cut out of a. -/
def pcs (a m : S24) : List S24 := [⟨a.f0, a.f1, a.f2, m.f1⟩, ⟨a.f0, m.f3, a.f2, a.f3⟩, ⟨a.f0, m.f1, m.f0, m.f3⟩, ⟨m.f2, m.f1, a.f2, m.f3⟩]
/-- What is left of a without b. -/
def cut (a b : S24) : List S24 := (pcs a (cm a b)).filter ne
theorem cutl (l2 : List S24) : ∀ (l1 acc : List S24) (k : Nat), l2.length < k → acc.length + l2.length < 4398046511104 → (l1 ++ l2).length ≤ 4611686018427387904 →
    rect_Cut.l0 k acc (l1 ++ l2) ((l1 ++ l2).length : Int) (l1.length : Int) = some (acc ++ l2.filter ne) := by
  induction l2 with
  | nil =>
    intro l1 acc k hk _ _
    obtain ⟨k, rfl⟩ : ∃ m, k = m + 1 := ⟨k - 1, by omega⟩
    simp only [rect_Cut.l0]
    rw [if_neg (mid_ge _)]
    simp
  | cons x l2 ih =>
    intro l1 acc k hk ha hn
    obtain ⟨k, rfl⟩ : ∃ m, k = m + 1 := ⟨k - 1, by omega⟩
    simp only [List.length_cons] at hk ha
    simp only [rect_Cut.l0]
    rw [if_pos (mid_lt _ _ _), if_pos (by omega), if_pos (mid_lt _ _ _), rd_mid, empty_eq, mid_next l1 x l2 hn]
    simp only [Option.bind_some]
    rw [mid_app] at hn ⊢
    by_cases he : emp x
    · rw [if_pos (by simpa using he), ih (l1 ++ [x]) acc k (by omega) (by omega) hn]
      simp [ne, he]
    · rw [if_neg (by simpa using he), if_pos (by omega), ih (l1 ++ [x]) (acc ++ [x]) k (by omega) (by simp; omega) hn]
      simp [ne, he]
theorem cut_eq (a b : S24) (k : Nat) (hk : 6 ≤ k) : rect_Cut.f k a.f0 a.f1 a.f2 a.f3 b.f0 b.f1 b.f2 b.f3 = some (cut a b) := by
  obtain ⟨k, rfl⟩ : ∃ m, k = m + 1 := ⟨k - 1, by omega⟩
  have hj : ∀ m : S24, rect_Cut.j0 (k + 1) a.f0 a.f1 a.f2 a.f3 m.f0 m.f1 m.f2 m.f3 = some ((pcs a m).filter ne) := fun m => by
    simp only [rect_Cut.j0, Option.bind_some]
    have := cutl (pcs a m) [] [] k (by simp [pcs]; omega) (by simp [pcs]) (by simp [pcs])
    simpa [pcs] using this
  unfold rect_Cut.f
  rw [meet_eq]
  simp only [Option.bind_some]
  rw [empty_eq (meet a b)]
  simp only [Option.bind_some]
  unfold cut cm
  by_cases h : emp (meet a b)
  · rw [if_pos (by simpa using h), if_pos h]
    exact hj ⟨a.f0, a.f3, a.f2, a.f3⟩
  · rw [if_neg (by simpa using h), if_neg h]
    exact hj (meet a b)
/-- In how many of some a point is. -/
def cnt (l : List S24) (x y : Int) : Nat := l.countP fun r => decide (has r x y)
theorem cnt_filter (l : List S24) (x y : Int) : cnt (l.filter ne) x y = cnt l x y := by
  unfold cnt
  rw [List.countP_filter]
  apply List.countP_congr
  intro r _
  have : has r x y → ¬ emp r := by unfold has emp; omega
  simp only [Bool.and_eq_true, decide_eq_true_eq, ne, Bool.not_eq_true', decide_eq_false_iff_not]
  exact ⟨fun h => h.1, fun h => ⟨h, this h⟩⟩
theorem cm_cases (a b : S24) : (cm a b = ⟨a.f0, a.f3, a.f2, a.f3⟩ ∧ ∀ x y, has a x y → ¬ has b x y) ∨
    (a.f0 ≤ (cm a b).f0 ∧ (cm a b).f0 < (cm a b).f2 ∧ (cm a b).f2 ≤ a.f2 ∧ a.f1 ≤ (cm a b).f1 ∧ (cm a b).f1 < (cm a b).f3 ∧ (cm a b).f3 ≤ a.f3 ∧ ∀ x y, has (cm a b) x y ↔ has a x y ∧ has b x y) := by
  unfold cm
  by_cases h : emp (meet a b)
  · rw [if_pos h]
    left
    refine ⟨rfl, fun x y h1 h2 => ?_⟩
    have h3 := (has_meet a b x y).2 ⟨h1, h2⟩
    unfold has at h3
    unfold emp at h
    omega
  · rw [if_neg h]
    right
    have hm := has_meet a b
    unfold emp at h
    have e0 := mx_or a.f0 b.f0; have e1 := mx_or a.f1 b.f1; have e2 := mn_or a.f2 b.f2; have e3 := mn_or a.f3 b.f3
    refine ⟨?_, by omega, ?_, ?_, by omega, ?_, hm⟩
    all_goals
      revert h
      unfold meet
      split
      · simp
      · simp only; omega
theorem cnt_pcs (a m : S24) (x y : Int) : cnt (pcs a m) x y =
    (if has ⟨a.f0, a.f1, a.f2, m.f1⟩ x y then 1 else 0) + (if has ⟨a.f0, m.f3, a.f2, a.f3⟩ x y then 1 else 0) +
    (if has ⟨a.f0, m.f1, m.f0, m.f3⟩ x y then 1 else 0) + (if has ⟨m.f2, m.f1, a.f2, m.f3⟩ x y then 1 else 0) := by
  unfold cnt pcs
  simp only [List.countP_cons, List.countP_nil, decide_eq_true_eq]
  omega
theorem cnt_cut (a b : S24) (x y : Int) : cnt (cut a b) x y = if has a x y ∧ ¬ has b x y then 1 else 0 := by
  unfold cut
  rw [cnt_filter, cnt_pcs]
  rcases cm_cases a b with ⟨e, h⟩ | ⟨h0, h1, h2, h3, h4, h5, h6⟩
  · rw [e]
    have h' := h x y
    by_cases hb : has b x y
    · have ha : ¬ has a x y := fun ha => h' ha hb
      simp only [ha, false_and, if_false]
      (repeat' split) <;> simp only [has] at * <;> omega
    · simp only [hb, not_false_eq_true, and_true]
      clear h h' hb e
      (repeat' split) <;> simp only [has] at * <;> omega
  · have h' := h6 x y
    clear h6
    by_cases ha : has a x y
    · by_cases hb : has b x y
      · have hm := h'.2 ⟨ha, hb⟩
        simp only [hb, not_true, and_false, if_false]
        clear h' ha hb
        (repeat' split) <;> simp only [has] at * <;> omega
      · have hm : ¬ has (cm a b) x y := fun hm => hb (h'.1 hm).2
        simp only [ha, hb, not_false_eq_true, and_true, if_true]
        clear h' hb
        (repeat' split) <;> simp only [has] at * <;> omega
    · simp only [ha, false_and, if_false]
      clear h'
      (repeat' split) <;> simp only [has] at * <;> omega

/-! ### What is left of one without others -/
/-- A point is in one of some. -/
def inl (l : List S24) (x y : Int) : Prop := ∃ q ∈ l, has q x y
theorem inl_nil (x y : Int) : ¬ inl [] x y := by rintro ⟨q, h, _⟩; simp at h
theorem inl_cons (q : S24) (l : List S24) (x y : Int) : inl (q :: l) x y ↔ has q x y ∨ inl l x y := by
  unfold inl; simp
theorem inl_app (l m : List S24) (x y : Int) : inl (l ++ m) x y ↔ inl l x y ∨ inl m x y := by
  unfold inl
  constructor
  · rintro ⟨q, h, h2⟩
    rcases List.mem_append.1 h with h | h
    · exact .inl ⟨q, h, h2⟩
    · exact .inr ⟨q, h, h2⟩
  · rintro (⟨q, h, h2⟩ | ⟨q, h, h2⟩)
    · exact ⟨q, List.mem_append_left _ h, h2⟩
    · exact ⟨q, List.mem_append_right _ h, h2⟩
instance (l : List S24) (x y : Int) : Decidable (inl l x y) := by unfold inl; exact inferInstance
theorem inl_cnt (l : List S24) (x y : Int) : inl l x y ↔ 1 ≤ cnt l x y := by
  unfold inl cnt
  rw [Nat.succ_le_iff, List.countP_pos_iff]
  simp
theorem cnt_app (l m : List S24) (x y : Int) : cnt (l ++ m) x y = cnt l x y + cnt m x y := List.countP_append
theorem cnt_cons (q : S24) (l : List S24) (x y : Int) : cnt (q :: l) x y = cnt l x y + if has q x y then 1 else 0 := by
  unfold cnt; rw [List.countP_cons]; simp
/-- All of some without one. -/
def cuts (left : List S24) (q : S24) : List S24 := left.flatMap fun y => cut y q
theorem cnt_cuts (left : List S24) (q : S24) (x y : Int) : cnt (cuts left q) x y = if has q x y then 0 else cnt left x y := by
  unfold cuts
  induction left with
  | nil => simp [cnt]
  | cons a left ih =>
    rw [List.flatMap_cons, cnt_app, ih, cnt_cut, cnt_cons]
    by_cases h1 : has q x y <;> by_cases h2 : has a x y <;> simp [h1, h2] <;> omega
/-- What is left of one, others cut off one behind the other. -/
def rest (r : S24) (l : List S24) : List S24 := l.foldl cuts (if emp r then [] else [r])
theorem rest_nil (r : S24) : rest r [] = if emp r then [] else [r] := rfl
theorem rest_snoc (r : S24) (l : List S24) (q : S24) : rest r (l ++ [q]) = cuts (rest r l) q := by
  unfold rest; rw [List.foldl_append]; rfl
theorem cnt_fold (l : List S24) (x y : Int) : ∀ left, cnt (l.foldl cuts left) x y = if inl l x y then 0 else cnt left x y := by
  induction l with
  | nil => intro left; simp [inl_nil]
  | cons q l ih =>
    intro left
    rw [List.foldl_cons, ih, cnt_cuts]
    by_cases h1 : has q x y <;> by_cases h2 : inl l x y <;> simp [h1, h2, inl_cons]
theorem cnt_rest (r : S24) (l : List S24) (x y : Int) : cnt (rest r l) x y = if has r x y ∧ ¬ inl l x y then 1 else 0 := by
  unfold rest
  rw [cnt_fold]
  by_cases h0 : emp r
  · have h1 : ¬ has r x y := by unfold emp at h0; unfold has; omega
    simp [h0, h1, cnt]
  · by_cases h1 : has r x y <;> by_cases h2 : inl l x y <;> simp [h0, h1, h2, cnt]
theorem ne_cut (a b : S24) : ∀ q ∈ cut a b, ¬ emp q := by
  intro q hq
  unfold cut at hq
  have := (List.mem_filter.1 hq).2
  simpa [ne] using this
theorem ne_fold (l : List S24) : ∀ left : List S24, (∀ q ∈ left, ¬ emp q) → ∀ q ∈ l.foldl cuts left, ¬ emp q := by
  induction l with
  | nil => intro left h; exact h
  | cons b l ih =>
    intro left h
    rw [List.foldl_cons]
    refine ih _ fun q hq => ?_
    unfold cuts at hq
    obtain ⟨a, _, ha⟩ := List.mem_flatMap.1 hq
    exact ne_cut a b q ha
theorem ne_rest (r : S24) (l : List S24) : ∀ q ∈ rest r l, ¬ emp q := by
  refine ne_fold l _ fun q hq => ?_
  by_cases h : emp r
  · simp [h] at hq
  · simp [h] at hq; subst hq; exact h
theorem has_corner {q : S24} (h : ¬ emp q) : has q q.f0 q.f1 := by unfold emp at h; unfold has; omega
/-- Nothing is left just where all is in the others. -/
theorem rest_nil_iff (r : S24) (l : List S24) : rest r l = [] ↔ ∀ x y, has r x y → inl l x y := by
  constructor
  · intro h x y hr
    have := cnt_rest r l x y
    rw [h] at this
    by_cases hi : inl l x y
    · exact hi
    · simp [hr, hi, cnt] at this
  · intro h
    cases hl : rest r l with
    | nil => rfl
    | cons q m =>
      have hq := ne_rest r l q (by rw [hl]; simp)
      have h1 := cnt_rest r l q.f0 q.f1
      rw [hl, cnt_cons, if_pos (has_corner hq)] at h1
      split at h1
      · rename_i h2; exact absurd (h _ _ h2.1) h2.2
      · omega
theorem cuts_len (left : List S24) (q : S24) : (cuts left q).length ≤ 4 * left.length := by
  unfold cuts
  induction left with
  | nil => simp
  | cons a left ih =>
    rw [List.flatMap_cons, List.length_append, List.length_cons]
    have : (cut a q).length ≤ 4 := List.length_filter_le ne (pcs a (cm a q))
    omega
theorem rest_len (r : S24) (l : List S24) : (rest r l).length ≤ 4 ^ l.length := by
  unfold rest
  have key : ∀ (l left : List S24), (l.foldl cuts left).length ≤ 4 ^ l.length * left.length := by
    intro l
    induction l with
    | nil => intro left; simp
    | cons q l ih =>
      intro left
      rw [List.foldl_cons, List.length_cons, Nat.pow_succ, Nat.mul_assoc]
      exact Nat.le_trans (ih _) (Nat.mul_le_mul_left _ (cuts_len left q))
  have h := key l (if emp r then [] else [r])
  split at h
  · simp at h ⊢; rename_i h0; simp [h0, h]
  · rename_i h0; simpa [h0] using h

theorem rmeet_eq (a b : S24) (k : Nat) (hk : 3 ≤ k) : decoupageref02_Meet.f k a.f0 a.f1 a.f2 a.f3 b.f0 b.f1 b.f2 b.f3 = some ((meet a b).f0, (meet a b).f1, (meet a b).f2, (meet a b).f3) := by
  obtain ⟨k, rfl⟩ : ∃ m, k = m + 3 := ⟨k - 3, by omega⟩
  have hE : ∀ p q r s : Int, decoupageref02_Empty.f p q r s = some (decide (emp ⟨p, q, r, s⟩)) := fun p q r s => rempty_eq ⟨p, q, r, s⟩
  unfold decoupageref02_Meet.f meet
  simp only [decoupageref02_Meet.j0, decoupageref02_Meet.j1, decoupageref02_Meet.j2, hE, Option.bind_some, mx, mn]
  simp only [gt_iff_lt]
  by_cases h0 : a.f0 < b.f0 <;> by_cases h1 : a.f1 < b.f1 <;> by_cases h2 : b.f2 < a.f2 <;> by_cases h3 : b.f3 < a.f3 <;>
    simp only [h0, h1, h2, h3, if_true, if_false] <;> split <;> simp_all

/-- All points of a are in b. -/
def ins (a b : S24) : Prop := emp a ∨ (a.f0 ≥ b.f0 ∧ a.f2 ≤ b.f2 ∧ a.f1 ≥ b.f1 ∧ a.f3 ≤ b.f3)
instance (a b : S24) : Decidable (ins a b) := by unfold ins; exact inferInstance
theorem ins_eq (a b : S24) : rect_Inside.f a.f0 a.f1 a.f2 a.f3 b.f0 b.f1 b.f2 b.f3 = some (decide (ins a b)) := by
  unfold rect_Inside.f ins
  rw [empty_eq]
  simp only [Option.bind_some]
  by_cases h0 : emp a
  · rw [if_pos (by simpa using h0)]; simp [h0]
  rw [if_neg (by simpa using h0)]
  by_cases h1 : a.f0 ≥ b.f0
  · by_cases h2 : a.f2 ≤ b.f2
    · by_cases h3 : a.f1 ≥ b.f1
      · rw [if_pos h1, if_pos h2, if_pos h3]; simp [h0, h1, h2, h3]
      · rw [if_pos h1, if_pos h2, if_neg h3]; simp [h0, h3]
    · rw [if_pos h1, if_neg h2]; simp [h0, h2]
  · rw [if_neg h1]; simp [h0, h1]

theorem rins_eq (a b : S24) (ha : Q24 a) : decoupageref02_Inside.f a.f0 a.f1 a.f2 a.f3 b.f0 b.f1 b.f2 b.f3 = some (decide (ins a b)) := by
  have hH : ∀ x y : Int, decoupageref02_Holds.f b.f0 b.f1 b.f2 b.f3 x y = some (decide (has b x y)) := fun x y => rholds_eq b x y
  unfold decoupageref02_Inside.f
  rw [rempty_eq, hH, hH]
  simp only [Option.bind_some]
  unfold Q24 I64 at ha
  by_cases h0 : emp a
  · have h1 : ins a b := .inl h0
    simp [h0, h1]
  have h0' := h0
  unfold emp at h0'
  have e2 : wrap64 (a.f2 - 1) = a.f2 - 1 := by unfold wrap64; omega
  have e3 : wrap64 (a.f3 - 1) = a.f3 - 1 := by unfold wrap64; omega
  rw [e2, e3]
  have key : ins a b ↔ has b a.f0 a.f1 ∧ has b (a.f2 - 1) (a.f3 - 1) := by
    constructor
    · rintro (h | h)
      · exact absurd h h0
      · unfold has; omega
    · intro h
      right
      unfold has at h
      omega
  by_cases h1 : has b a.f0 a.f1 <;> simp [h0, h1, key]

/-! ### Rest of the program -/
theorem restl1 (q : S24) (L : List S24) (n i : Int) (r : List S24) (l2 : List S24) : ∀ (l1 acc : List S24), (l1 ++ l2).length ≤ 4611686018427387904 → acc.length + (cuts l2 q).length < 4398046511104 →
    Ev (fun k => cover_Rest.l0 k (acc ++ cuts l2 q) L n (wrap64 (i + 1))) r → Ev (fun k => cover_Rest.l1 k acc L n i (l1 ++ l2) ((l1 ++ l2).length : Int) (l1.length : Int) q.f0 q.f1 q.f2 q.f3) r := by
  induction l2 with
  | nil =>
    rintro l1 acc hn hb ⟨K, hK⟩
    refine ⟨K + 1, fun k hk => ?_⟩
    obtain ⟨k, rfl⟩ : ∃ m, k = m + 1 := ⟨k - 1, by omega⟩
    simp only [cover_Rest.l1]
    rw [if_neg (mid_ge _)]
    have := hK k (by omega)
    simpa [cuts] using this
  | cons a l2 ih =>
    intro l1 acc hn hb hE
    have hb2 : acc.length + ((cut a q).length + (cuts l2 q).length) < 4398046511104 := by
      unfold cuts at hb ⊢
      rw [List.flatMap_cons, List.length_append] at hb
      exact hb
    obtain ⟨K, hK⟩ := ih (l1 ++ [a]) (acc ++ cut a q) (by rw [← mid_app]; exact hn) (by rw [List.length_append]; omega) (by
      have e : acc ++ cut a q ++ cuts l2 q = acc ++ cuts (a :: l2) q := by unfold cuts; rw [List.flatMap_cons, List.append_assoc]
      rw [e]; exact hE)
    refine ⟨K + 7, fun k hk => ?_⟩
    obtain ⟨k, rfl⟩ : ∃ m, k = m + 1 := ⟨k - 1, by omega⟩
    simp only [cover_Rest.l1]
    rw [if_pos (mid_lt _ _ _), if_pos (by omega), if_pos (mid_lt _ _ _), rd_mid, mid_next l1 a l2 hn, cut_eq a q k (by omega)]
    simp only [Option.bind_some]
    rw [if_pos (by omega), mid_app]
    exact hK k (by omega)
theorem restl0 (l2 : List S24) : ∀ (l1 left : List S24), (l1 ++ l2).length ≤ 4611686018427387904 → (∀ i, i ≤ l2.length → ((l2.take i).foldl cuts left).length < 4398046511104) →
    Ev (fun k => cover_Rest.l0 k left (l1 ++ l2) ((l1 ++ l2).length : Int) (l1.length : Int)) (l2.foldl cuts left) := by
  induction l2 with
  | nil =>
    intro l1 left hn _
    refine ⟨1, fun k hk => ?_⟩
    obtain ⟨k, rfl⟩ : ∃ m, k = m + 1 := ⟨k - 1, by omega⟩
    simp only [cover_Rest.l0]
    rw [if_neg (mid_ge _)]
    rfl
  | cons q l2 ih =>
    intro l1 left hn hb
    have hn2 : ((l1 ++ [q]) ++ l2).length ≤ 4611686018427387904 := by rw [← mid_app]; exact hn
    have ih2 := ih (l1 ++ [q]) (cuts left q) hn2 (fun i hi => by
      have := hb (i + 1) (by simp; omega)
      simpa using this)
    have h0 := hb 0 (by simp)
    have h1 := hb 1 (by simp)
    simp only [List.take_zero, List.foldl_nil] at h0
    simp only [List.take_succ_cons, List.take_zero, List.foldl_cons, List.foldl_nil] at h1
    obtain ⟨K, hK⟩ := restl1 q (l1 ++ q :: l2) ((l1 ++ q :: l2).length : Int) (l1.length : Int) (l2.foldl cuts (cuts left q)) left [] [] (by simp; omega) (by simpa using h1) (by
      rw [mid_next l1 q l2 hn, List.nil_append, mid_app]
      exact ih2)
    refine ⟨K + 1, fun k hk => ?_⟩
    obtain ⟨k, rfl⟩ : ∃ m, k = m + 1 := ⟨k - 1, by omega⟩
    simp only [cover_Rest.l0]
    rw [if_pos (mid_lt _ _ _), if_pos (by omega), if_pos (mid_lt _ _ _), rd_mid]
    exact hK k (by omega)
theorem rest_eq (r : S24) (l : List S24) (hn : l.length ≤ 4611686018427387904) (hb : ∀ i, i ≤ l.length → (rest r (l.take i)).length < 4398046511104) :
    Ev (fun k => cover_Rest.f k r.f0 r.f1 r.f2 r.f3 l) (rest r l) := by
  obtain ⟨K, hK⟩ := restl0 l [] (if emp r then [] else [r]) (by simpa using hn) hb
  refine ⟨K + 1, fun k hk => ?_⟩
  obtain ⟨k, rfl⟩ : ∃ m, k = m + 1 := ⟨k - 1, by omega⟩
  have := hK k (by omega)
  unfold cover_Rest.f
  rw [empty_eq]
  simp only [Option.bind_some, cover_Rest.j0]
  by_cases h : emp r
  · rw [if_pos (by simpa using h)]
    rw [if_pos h] at this
    rw [rest, if_pos h]
    exact this
  · rw [if_neg (by simpa using h), if_pos (by simp)]
    rw [if_neg h] at this
    rw [rest, if_neg h]
    exact this
theorem rest_bound8 (r : S24) (l : List S24) (h : l.length ≤ 8) : ∀ i, i ≤ l.length → (rest r (l.take i)).length < 4398046511104 := by
  intro i hi
  have h1 := rest_len r (l.take i)
  have h2 : (l.take i).length ≤ 8 := by rw [List.length_take]; omega
  have h3 : 4 ^ (l.take i).length ≤ 4 ^ 8 := Nat.pow_le_pow_right (by decide) h2
  have h4 : (4 : Nat) ^ 8 = 65536 := by decide
  omega

theorem cov_eq (r : S24) (l : List S24) (hn : l.length ≤ 8) : Ev (fun k => cover_Covered.f k r.f0 r.f1 r.f2 r.f3 l) (decide (rest r l = [])) := by
  obtain ⟨K, hK⟩ := rest_eq r l (by omega) (rest_bound8 r l hn)
  refine ⟨K, fun k hk => ?_⟩
  dsimp only at hK ⊢
  unfold cover_Covered.f
  rw [hK k hk]
  simp only [Option.bind_some]
  congr 1
  cases rest r l <;> simp <;> omega

/-! ### Items: who shows at a point -/
/-- Its numbers are whole numbers of their kinds. -/
def Q26 (x : S26) : Prop := I64 x.f0 ∧ I64 x.f1 ∧ Q24 x.f2 ∧ Q24 x.f3 ∧ Q24 x.f4 ∧ I64 x.f5
/-- An item shows at a point. -/
def shows (i : S26) (x y : Int) : Prop := has i.f2 x y ∧ has i.f4 x y ∧ (i.f1 = 1 → ¬ has i.f3 x y)
instance (i : S26) (x y : Int) : Decidable (shows i x y) := by unfold shows; exact inferInstance
theorem rdi (l : List S26) (n : Nat) : rd_T26 l (n : Int) = l.getD n z26 := by unfold rd_T26; simp
theorem rdi_mid (l1 : List S26) (x : S26) (l2 : List S26) : rd_T26 (l1 ++ x :: l2) (l1.length : Int) = x := by unfold rd_T26; simp
/-- Of the first n the last one that shows. -/
def ownAt (l : List S26) (x y : Int) : Nat → Option Nat
  | 0 => none
  | n + 1 => if shows (l.getD n z26) x y then some n else ownAt l x y n
theorem ownAt_lt (l : List S26) (x y : Int) : ∀ n m, ownAt l x y n = some m → m < n ∧ shows (l.getD m z26) x y ∧ ∀ j, m < j → j < n → ¬ shows (l.getD j z26) x y
  | 0, m, h => by simp [ownAt] at h
  | n + 1, m, h => by
    unfold ownAt at h
    split at h
    · rename_i hs
      obtain rfl := Option.some.inj h
      exact ⟨by omega, hs, fun j h1 h2 => by omega⟩
    · rename_i hs
      obtain ⟨h1, h2, h3⟩ := ownAt_lt l x y n m h
      refine ⟨by omega, h2, fun j h4 h5 => ?_⟩
      rcases Nat.lt_or_ge j n with h6 | h6
      · exact h3 j h4 h6
      · obtain rfl : j = n := by omega
        exact hs
theorem ownAt_none (l : List S26) (x y : Int) : ∀ n, ownAt l x y n = none → ∀ j, j < n → ¬ shows (l.getD j z26) x y
  | 0, _, j, hj => by omega
  | n + 1, h, j, hj => by
    unfold ownAt at h
    split at h
    · cases h
    · rename_i hs
      rcases Nat.lt_or_ge j n with h6 | h6
      · exact ownAt_none l x y n h j h6
      · obtain rfl : j = n := by omega
        exact hs
theorem ownAt_app (l l2 : List S26) (x y : Int) : ∀ n, n ≤ l.length → ownAt (l ++ l2) x y n = ownAt l x y n
  | 0, _ => rfl
  | n + 1, h => by
    unfold ownAt
    have e : (l ++ l2).getD n z26 = l.getD n z26 := by
      simp only [List.getD_eq_getElem?_getD]
      rw [List.getElem?_append_left (by omega)]
    rw [e, ownAt_app l l2 x y n (by omega)]
/-- Who owns a point. -/
def ownr (l : List S26) (x y : Int) : Option Nat := ownAt l x y l.length
theorem ownr_snoc (l : List S26) (i : S26) (x y : Int) : ownr (l ++ [i]) x y = if shows i x y then some l.length else ownr l x y := by
  unfold ownr
  rw [List.length_append, List.length_singleton]
  show (if _ then _ else _) = _
  have e : (l ++ [i]).getD l.length z26 = i := by simp
  rw [e, ownAt_app l [i] x y l.length (Nat.le_refl _)]
theorem ownr_lt {l : List S26} {x y : Int} {m : Nat} (h : ownr l x y = some m) : m < l.length := (ownAt_lt l x y _ m h).1

/-- What may be seen of an item. -/
def seen (i : S26) : S24 := meet i.f2 i.f4
theorem seen_eq (i : S26) : owner_Seen.f i.f0 i.f1 i.f2.f0 i.f2.f1 i.f2.f2 i.f2.f3 i.f3.f0 i.f3.f1 i.f3.f2 i.f3.f3 i.f4.f0 i.f4.f1 i.f4.f2 i.f4.f3 i.f5 = some ((seen i).f0, (seen i).f1, (seen i).f2, (seen i).f3) := by
  unfold owner_Seen.f seen
  rw [meet_eq]
  rfl

/-! ### What is hidden, and what stays -/
/-- What stays of a list. -/
def keepF (p : S26 → List S26 → Bool) : List S26 → List S26
  | [] => []
  | x :: r => if p x r then keepF p r else x :: keepF p r
theorem keepF_len (p : S26 → List S26 → Bool) : ∀ l, (keepF p l).length ≤ l.length
  | [] => Nat.le_refl _
  | x :: r => by
    have := keepF_len p r
    unfold keepF
    split
    · simp; omega
    · simp; omega
def backsOf (l : List S26) : List S24 := (l.filter fun y => decide (y.f1 = 0)).map seen
theorem backs_cons (x : S26) (l : List S26) : backsOf (x :: l) = if x.f1 = 0 then seen x :: backsOf l else backsOf l := by
  unfold backsOf
  by_cases h : x.f1 = 0
  · simp [h]
  · simp [h]
theorem backs_len (l : List S26) : (backsOf l).length ≤ l.length := by
  unfold backsOf
  rw [List.length_map]
  exact List.length_filter_le _ _

/-- A back of the rest covers it, or it has no point. -/
def hidB (x : S26) (r : List S26) : Bool := decide (emp (seen x)) || r.any fun y => decide (y.f1 = 0) && decide (ins (seen x) (seen y))
theorem hid_backs (x : S26) (l : List S26) : hidB x l = (decide (emp (seen x)) || (backsOf l).any fun q => decide (ins (seen x) q)) := by
  unfold hidB backsOf
  rw [List.any_map, List.any_filter]
  rfl
theorem q_seen {x : S26} (h : Q26 x) : Q24 (seen x) := by
  obtain ⟨_, _, h2, _, h4, _⟩ := h
  have h0 : I64 0 := by unfold I64; decide
  unfold seen meet
  split
  · exact ⟨h0, h0, h0, h0⟩
  · refine ⟨?_, ?_, ?_, ?_⟩
    · show I64 (mx _ _)
      rcases mx_or x.f2.f0 x.f4.f0 with ⟨e, _⟩ | ⟨e, _⟩ <;> rw [e]
      · exact h2.1
      · exact h4.1
    · show I64 (mx _ _)
      rcases mx_or x.f2.f1 x.f4.f1 with ⟨e, _⟩ | ⟨e, _⟩ <;> rw [e]
      · exact h2.2.1
      · exact h4.2.1
    · show I64 (mn _ _)
      rcases mn_or x.f2.f2 x.f4.f2 with ⟨e, _⟩ | ⟨e, _⟩ <;> rw [e]
      · exact h2.2.2.1
      · exact h4.2.2.1
    · show I64 (mn _ _)
      rcases mn_or x.f2.f3 x.f4.f3 with ⟨e, _⟩ | ⟨e, _⟩ <;> rw [e]
      · exact h2.2.2.2
      · exact h4.2.2.2
theorem hidl (s : S24) (l2 : List S26) : ∀ (l1 : List S26) (k : Nat), l2.length < k → (l1 ++ l2).length ≤ 4611686018427387904 →
    cull_Hidden.l0 k (l1 ++ l2) ((l1 ++ l2).length : Int) (l1.length : Int) s.f0 s.f1 s.f2 s.f3 = some (l2.any fun y => decide (y.f1 = 0) && decide (ins s (seen y))) := by
  induction l2 with
  | nil =>
    intro l1 k hk _
    obtain ⟨k, rfl⟩ : ∃ m, k = m + 1 := ⟨k - 1, by omega⟩
    simp only [cull_Hidden.l0]
    rw [if_neg (mid_ge _)]
    rfl
  | cons x l2 ih =>
    intro l1 k hk hn
    obtain ⟨k, rfl⟩ : ∃ m, k = m + 1 := ⟨k - 1, by omega⟩
    simp only [List.length_cons] at hk
    have nx := ih (l1 ++ [x]) k (by omega) (by rw [← mid_app]; exact hn)
    rw [← mid_app] at nx
    simp only [cull_Hidden.l0]
    rw [if_pos (mid_lt _ _ _), if_pos (by omega), if_pos (mid_lt _ _ _), rdi_mid, mid_next l1 x l2 hn, List.any_cons]
    by_cases hz : x.f1 = 0
    · rw [if_pos hz, seen_eq]
      simp only [Option.bind_some]
      rw [ins_eq]
      simp only [Option.bind_some]
      by_cases hi : ins s (seen x)
      · simp [hz, hi]
      · rw [decide_eq_false hi, if_neg (by decide), nx]
        simp
    · rw [if_neg hz, nx]
      simp [hz]
theorem hidden_eq (l1 : List S26) (x : S26) (l2 : List S26) (k : Nat) (hk : l2.length + 1 < k) (hn : (l1 ++ x :: l2).length ≤ 4611686018427387904) :
    cull_Hidden.f k (l1 ++ x :: l2) (l1.length : Int) = some (hidB x l2) := by
  obtain ⟨k, rfl⟩ : ∃ m, k = m + 1 := ⟨k - 1, by omega⟩
  unfold cull_Hidden.f
  have hge : ¬ ((l1.length : Int) ≥ ((l1 ++ x :: l2).length : Int)) := by have := mid_lt l1 x l2; omega
  rw [if_neg (by omega), decide_eq_false hge]
  simp only [cull_Hidden.j0]
  rw [if_neg (by decide), if_pos (by omega), if_pos (mid_lt _ _ _), rdi_mid, seen_eq]
  simp only [Option.bind_some]
  rw [empty_eq]
  simp only [Option.bind_some]
  unfold hidB
  by_cases he : emp (seen x)
  · simp [he]
  · rw [decide_eq_false he, if_neg (by decide), mid_next l1 x l2 hn, if_pos (by omega), if_pos (by simp; omega)]
    have hd : (l1 ++ x :: l2).drop (((l1 ++ [x]).length : Int)).toNat = l2 := by
      rw [Int.toNat_natCast, mid_app l1 x l2, List.drop_left]
    rw [hd, Bool.false_or]
    exact hidl (seen x) l2 [] k (by omega) (by simp at hn ⊢; omega)
theorem hidden_out (l : List S26) (n : Int) (k : Nat) (hk : 1 ≤ k) (h : n < 0 ∨ (l.length : Int) ≤ n) : cull_Hidden.f k l n = some false := by
  obtain ⟨k, rfl⟩ : ∃ m, k = m + 1 := ⟨k - 1, by omega⟩
  unfold cull_Hidden.f
  by_cases h0 : n < 0
  · rw [if_pos h0]
    simp [cull_Hidden.j0]
  · rw [if_neg h0, decide_eq_true (by omega)]
    simp [cull_Hidden.j0]
theorem culll (l2 : List S26) : ∀ (l1 acc : List S26) (k : Nat), l2.length + (l1 ++ l2).length + 2 < k → (l1 ++ l2).length ≤ 1000000 → acc.length + l2.length ≤ 1000000 →
    cull_Cull.l0 k (l1 ++ l2) acc (l1 ++ l2) ((l1 ++ l2).length : Int) (l1.length : Int) = some (acc ++ keepF hidB l2) := by
  induction l2 with
  | nil =>
    intro l1 acc k hk _ _
    obtain ⟨k, rfl⟩ : ∃ m, k = m + 1 := ⟨k - 1, by omega⟩
    simp only [cull_Cull.l0]
    rw [if_neg (mid_ge _)]
    simp [keepF]
  | cons x l2 ih =>
    intro l1 acc k hk hn ha
    obtain ⟨k, rfl⟩ : ∃ m, k = m + 1 := ⟨k - 1, by omega⟩
    simp only [List.length_cons] at ha
    have nx : ∀ acc' : List S26, acc'.length + l2.length ≤ 1000000 → cull_Cull.l0 k (l1 ++ x :: l2) acc' (l1 ++ x :: l2) ((l1 ++ x :: l2).length : Int) ((l1 ++ [x]).length : Int) = some (acc' ++ keepF hidB l2) := by
      intro acc' h'
      have := ih (l1 ++ [x]) acc' k (by simp at hk ⊢; omega) (by rw [← mid_app]; exact hn) h'
      rw [← mid_app] at this
      exact this
    simp only [cull_Cull.l0]
    rw [if_pos (mid_lt _ _ _), if_pos (by omega), if_pos (mid_lt _ _ _), hidden_eq l1 x l2 k (by simp at hk; omega) (by omega)]
    simp only [Option.bind_some]
    rw [rdi_mid, mid_next l1 x l2 (by omega)]
    unfold keepF
    by_cases hh : hidB x l2 = true
    · rw [if_pos hh, if_pos hh]
      exact nx acc (by omega)
    · rw [if_neg hh, if_neg hh, if_pos (by omega)]
      refine (nx (acc ++ [x]) (by simp; omega)).trans ?_
      simp
theorem cull_eq (l : List S26) (k : Nat) (hk : 2 * l.length + 2 < k) (hn : l.length ≤ 1000000) : cull_Cull.f k l = some (keepF hidB l) := by
  unfold cull_Cull.f
  exact culll l [] [] k (by simp; omega) hn (by simpa using hn)

theorem rseen_eq (i : S26) (k : Nat) (hk : 3 ≤ k) : decoupageref27_Seen.f k i.f0 i.f1 i.f2.f0 i.f2.f1 i.f2.f2 i.f2.f3 i.f3.f0 i.f3.f1 i.f3.f2 i.f3.f3 i.f4.f0 i.f4.f1 i.f4.f2 i.f4.f3 i.f5 = some ((seen i).f0, (seen i).f1, (seen i).f2, (seen i).f3) := by
  unfold decoupageref27_Seen.f seen
  rw [rmeet_eq _ _ k hk]
  rfl
theorem backsl (l2 : List S26) : ∀ (l1 : List S26) (acc : List S24) (k : Nat), l2.length + 3 < k → (l1 ++ l2).length ≤ 1000000 → acc.length + l2.length ≤ 1000000 →
    decoupageref27_backs.l0 k (l1 ++ l2) acc (l1.length : Int) = some (acc ++ backsOf l2) := by
  induction l2 with
  | nil =>
    intro l1 acc k hk _ _
    obtain ⟨k, rfl⟩ : ∃ m, k = m + 1 := ⟨k - 1, by omega⟩
    simp only [decoupageref27_backs.l0]
    rw [if_neg (mid_ge _)]
    simp [backsOf]
  | cons x l2 ih =>
    intro l1 acc k hk hn ha
    obtain ⟨k, rfl⟩ : ∃ m, k = m + 1 := ⟨k - 1, by omega⟩
    simp only [List.length_cons] at ha hk
    have nx : ∀ acc' : List S24, acc'.length + l2.length ≤ 1000000 → decoupageref27_backs.l0 k (l1 ++ x :: l2) acc' ((l1 ++ [x]).length : Int) = some (acc' ++ backsOf l2) := by
      intro acc' h'
      have := ih (l1 ++ [x]) acc' k (by omega) (by rw [← mid_app]; exact hn) h'
      rw [← mid_app] at this
      exact this
    simp only [decoupageref27_backs.l0]
    rw [if_pos (mid_lt _ _ _), if_pos (by omega), rdi_mid, mid_next l1 x l2 (by omega), backs_cons]
    by_cases hz : x.f1 = 0
    · rw [if_pos hz, if_pos hz, rseen_eq x k (by omega)]
      simp only [Option.bind_some]
      rw [if_pos (by omega)]
      refine (nx (acc ++ [seen x]) (by simp; omega)).trans ?_
      simp
    · rw [if_neg hz, if_neg hz]
      exact nx acc (by omega)
theorem rbacks_eq (l1 l2 : List S26) (k : Nat) (hk : l2.length + 3 < k) (hn : (l1 ++ l2).length ≤ 1000000) : decoupageref27_backs.f k (l1 ++ l2) (l1.length : Int) = some (backsOf l2) := by
  unfold decoupageref27_backs.f
  exact backsl l2 l1 [] k hk hn (by simp at hn ⊢; omega)

theorem rhidl (s : S24) (hs : Q24 s) (b2 : List S24) : ∀ (b1 : List S24) (k : Nat), b2.length < k → (b1 ++ b2).length ≤ 4611686018427387904 →
    decoupageref27_Hidden.l0 k (b1 ++ b2) ((b1 ++ b2).length : Int) (b1.length : Int) s.f0 s.f1 s.f2 s.f3 = some (b2.any fun q => decide (ins s q)) := by
  induction b2 with
  | nil =>
    intro b1 k hk _
    obtain ⟨k, rfl⟩ : ∃ m, k = m + 1 := ⟨k - 1, by omega⟩
    simp only [decoupageref27_Hidden.l0]
    rw [if_neg (mid_ge _)]
    rfl
  | cons x b2 ih =>
    intro b1 k hk hn
    obtain ⟨k, rfl⟩ : ∃ m, k = m + 1 := ⟨k - 1, by omega⟩
    simp only [List.length_cons] at hk
    have nx := ih (b1 ++ [x]) k (by omega) (by rw [← mid_app]; exact hn)
    rw [← mid_app] at nx
    simp only [decoupageref27_Hidden.l0]
    rw [if_pos (mid_lt _ _ _), if_pos (by omega), if_pos (mid_lt _ _ _), rd_mid, mid_next b1 x b2 hn, rins_eq s x hs, List.any_cons]
    simp only [Option.bind_some]
    by_cases hi : ins s x
    · simp [hi]
    · rw [decide_eq_false hi, if_neg (by decide), nx]
      simp
theorem rhidden_eq (l1 : List S26) (x : S26) (l2 : List S26) (hq : Q26 x) (k : Nat) (hk : l2.length + 3 < k) (hn : (l1 ++ x :: l2).length ≤ 1000000) :
    decoupageref27_Hidden.f k (l1 ++ x :: l2) (l1.length : Int) = some (hidB x l2) := by
  unfold decoupageref27_Hidden.f
  rw [if_pos (by omega), if_pos (mid_lt _ _ _), rdi_mid, rseen_eq x k (by omega)]
  simp only [Option.bind_some]
  rw [rempty_eq]
  simp only [Option.bind_some]
  rw [hid_backs]
  by_cases he : emp (seen x)
  · simp [he]
  · rw [decide_eq_false he, if_neg (by decide), mid_next l1 x l2 (by omega), mid_app l1 x l2, rbacks_eq (l1 ++ [x]) l2 k hk (by rw [← mid_app]; exact hn)]
    simp only [Option.bind_some]
    rw [Bool.false_or]
    exact rhidl (seen x) (q_seen hq) (backsOf l2) [] k (by have := backs_len l2; omega) (by have := backs_len l2; simp at hn ⊢; omega)

/-! ### What is covered by all backs of the rest -/
def covB (x : S26) (r : List S26) : Bool := decide (rest (seen x) (backsOf r) = [])
/-- What stays, place by place. -/
def kfl : List S26 → List Bool
  | [] => []
  | x :: r => (!(covB x r)) :: kfl r
theorem rdb_mid (f1 : List Bool) (b : Bool) (f2 : List Bool) : rdOf false (f1 ++ b :: f2) (f1.length : Int) = b := by unfold rdOf; simp
theorem siftl1 (l2 : List S26) : ∀ (l1 acc : List S26) (f1 : List Bool) (k : Nat), f1.length = l1.length → l2.length < k → (l1 ++ l2).length ≤ 1000000 → acc.length + l2.length ≤ 1000000 →
    cull_Sift.l1 k (f1 ++ kfl l2) acc (l1 ++ l2) ((l1 ++ l2).length : Int) (l1.length : Int) = some (acc ++ keepF covB l2) := by
  induction l2 with
  | nil =>
    intro l1 acc f1 k _ hk _ _
    obtain ⟨k, rfl⟩ : ∃ m, k = m + 1 := ⟨k - 1, by omega⟩
    simp only [cull_Sift.l1]
    rw [if_neg (mid_ge _)]
    simp [keepF]
  | cons x l2 ih =>
    intro l1 acc f1 k hf hk hn ha
    obtain ⟨k, rfl⟩ : ∃ m, k = m + 1 := ⟨k - 1, by omega⟩
    simp only [List.length_cons] at ha hk
    have nx : ∀ acc' : List S26, acc'.length + l2.length ≤ 1000000 → cull_Sift.l1 k (f1 ++ kfl (x :: l2)) acc' (l1 ++ x :: l2) ((l1 ++ x :: l2).length : Int) ((l1 ++ [x]).length : Int) = some (acc' ++ keepF covB l2) := by
      intro acc' h'
      have := ih (l1 ++ [x]) acc' (f1 ++ [!(covB x l2)]) k (by simp [hf]) (by omega) (by rw [← mid_app]; exact hn) h'
      rw [← mid_app, ← mid_app] at this
      exact this
    simp only [cull_Sift.l1]
    have e : rdOf false (f1 ++ kfl (x :: l2)) (l1.length : Int) = !(covB x l2) := by
      rw [← hf]
      exact rdb_mid f1 _ _
    rw [if_pos (mid_lt _ _ _), if_pos (by omega), if_pos (mid_lt _ _ _), if_pos (by simp [kfl, hf]; omega), e, rdi_mid, mid_next l1 x l2 (by omega)]
    unfold keepF
    by_cases hh : covB x l2 = true
    · rw [if_pos hh, hh, if_neg (by decide)]
      exact nx acc (by omega)
    · rw [if_neg hh, Bool.eq_false_iff.2 hh, if_pos (by decide), if_pos (by omega)]
      refine (nx (acc ++ [x]) (by simp; omega)).trans ?_
      simp
theorem set_at (n : Nat) (b : Bool) (t : List Bool) : (List.replicate (n + 1) false ++ t).set n b = List.replicate n false ++ b :: t := by
  rw [List.replicate_succ', List.append_assoc, List.set_append_right _ _ (by simp)]
  simp
theorem siftl0 : ∀ (n : Nat) (l1 l2 : List S26) (B : List S24), l1.length = n → (l1 ++ l2).length ≤ 8 → B.length ≤ l2.length → (∀ x y, inl B x y ↔ inl (backsOf l2) x y) →
    Ev (fun k => cull_Sift.l0 k (l1 ++ l2) (List.replicate n false ++ kfl l2) B ((n : Int) - 1)) (keepF covB (l1 ++ l2))
  | 0, l1, l2, B, hl, hn, hB, hi => by
    obtain rfl : l1 = [] := List.length_eq_zero_iff.1 hl
    refine ⟨l2.length + 2, fun k hk => ?_⟩
    obtain ⟨k, rfl⟩ : ∃ m, k = m + 1 := ⟨k - 1, by omega⟩
    simp only [cull_Sift.l0]
    rw [if_neg (by omega)]
    exact siftl1 l2 [] [] [] k rfl (by omega) (by omega) (by simp at hn ⊢; omega)
  | n + 1, l1, l2, B, hl, hn, hB, hi => by
    obtain ⟨m1, x, rfl⟩ : ∃ m1 x, l1 = m1 ++ [x] := by
      rcases List.eq_nil_or_concat l1 with h | ⟨m1, x, h⟩
      · rw [h] at hl; simp at hl
      · exact ⟨m1, x, by simpa using h⟩
    have hm : m1.length = n := by simpa using hl
    rw [← mid_app] at hn ⊢
    have hlen : m1.length + (l2.length + 1) ≤ 8 := by simpa using hn
    have hc : decide (rest (seen x) B = []) = covB x l2 := by
      unfold covB
      rw [decide_eq_decide, rest_nil_iff, rest_nil_iff]
      constructor
      · intro h u v huv; exact (hi u v).1 (h u v huv)
      · intro h u v huv; exact (hi u v).2 (h u v huv)
    obtain ⟨K1, h1⟩ := cov_eq (seen x) B (by omega)
    dsimp only at h1
    rw [hc] at h1
    have nx : ∀ B' : List S24, B'.length ≤ l2.length + 1 → (∀ u v, inl B' u v ↔ inl (backsOf (x :: l2)) u v) →
        Ev (fun k => cull_Sift.l0 k (m1 ++ x :: l2) (List.replicate n false ++ (!(covB x l2)) :: kfl l2) B' ((n : Int) - 1)) (keepF covB (m1 ++ x :: l2)) := by
      intro B' hB' hi'
      exact siftl0 n m1 (x :: l2) B' hm hn (by simpa using hB') hi'
    have step : ∀ k, K1 ≤ k → cull_Sift.l0 (k + 1) (m1 ++ x :: l2) (List.replicate (n + 1) false ++ kfl l2) B (((n + 1 : Nat) : Int) - 1) =
        if x.f1 = 0 then (if (!(covB x l2)) = true then cull_Sift.l0 k (m1 ++ x :: l2) (List.replicate n false ++ (!(covB x l2)) :: kfl l2) (B ++ [seen x]) ((n : Int) - 1) else cull_Sift.l0 k (m1 ++ x :: l2) (List.replicate n false ++ (!(covB x l2)) :: kfl l2) B ((n : Int) - 1))
        else cull_Sift.l0 k (m1 ++ x :: l2) (List.replicate n false ++ (!(covB x l2)) :: kfl l2) B ((n : Int) - 1) := by
      intro k hk
      have e5 : ((n + 1 : Nat) : Int) - 1 = (m1.length : Int) := by omega
      have e6 : wrap64 ((m1.length : Int) - 1) = (n : Int) - 1 := by rw [w64 (by omega) (by omega)]; omega
      have e7 : (List.replicate (n + 1) false ++ kfl l2).set ((m1.length : Int)).toNat (!(covB x l2)) = List.replicate n false ++ (!(covB x l2)) :: kfl l2 := by
        rw [Int.toNat_natCast, hm]; exact set_at n _ _
      have e8 : rdOf false (List.replicate n false ++ (!(covB x l2)) :: kfl l2) (m1.length : Int) = !(covB x l2) := by
        have := rdb_mid (List.replicate n false) (!(covB x l2)) (kfl l2)
        rw [List.length_replicate] at this
        rw [hm]; exact this
      rw [e5]
      simp only [cull_Sift.l0]
      rw [if_pos (by omega), if_pos (by omega), if_pos (mid_lt _ _ _), rdi_mid, seen_eq]
      simp only [Option.bind_some]
      rw [h1 k hk]
      simp only [Option.bind_some]
      rw [if_pos (by simp; omega), e7, e8, e6]
      by_cases hz : x.f1 = 0
      · simp only [if_pos hz]
        by_cases hh : (!(covB x l2)) = true
        · simp only [if_pos hh]
          rw [if_pos (by omega)]
        · simp only [if_neg hh]
      · simp only [if_neg hz]
    rw [backs_cons] at nx
    by_cases hz : x.f1 = 0
    · simp only [if_pos hz] at nx step
      by_cases hh : covB x l2 = true
      · have hr : ∀ u v, has (seen x) u v → inl (backsOf l2) u v := (rest_nil_iff _ _).1 (of_decide_eq_true hh)
        obtain ⟨K2, h2⟩ := nx B (by omega) (by
          intro u v
          rw [inl_cons, hi]
          exact ⟨Or.inr, fun h => h.elim (hr u v) id⟩)
        refine ⟨K1 + K2 + 1, fun k hk => ?_⟩
        obtain ⟨k, rfl⟩ : ∃ m, k = m + 1 := ⟨k - 1, by omega⟩
        dsimp only
        rw [step k (by omega), if_neg (by simp [hh])]
        exact h2 k (by omega)
      · obtain ⟨K2, h2⟩ := nx (B ++ [seen x]) (by simp; omega) (by
          intro u v
          rw [inl_cons, inl_app, hi, inl_cons]
          constructor
          · rintro (h | h | h)
            · exact Or.inr h
            · exact Or.inl h
            · exact absurd h (inl_nil u v)
          · rintro (h | h)
            · exact Or.inr (Or.inl h)
            · exact Or.inl h)
        refine ⟨K1 + K2 + 1, fun k hk => ?_⟩
        obtain ⟨k, rfl⟩ : ∃ m, k = m + 1 := ⟨k - 1, by omega⟩
        dsimp only
        rw [step k (by omega), if_pos (by simp [hh])]
        exact h2 k (by omega)
    · simp only [if_neg hz] at nx step
      obtain ⟨K2, h2⟩ := nx B (by omega) hi
      refine ⟨K1 + K2 + 1, fun k hk => ?_⟩
      obtain ⟨k, rfl⟩ : ∃ m, k = m + 1 := ⟨k - 1, by omega⟩
      dsimp only
      rw [step k (by omega)]
      exact h2 k (by omega)
theorem sift_eq (l : List S26) (hn : l.length ≤ 8) : Ev (fun k => cull_Sift.f k l) (keepF covB l) := by
  obtain ⟨K, h⟩ := siftl0 l.length l [] [] rfl (by simpa using hn) (by simp) (fun u v => Iff.rfl)
  refine ⟨K, fun k hk => ?_⟩
  dsimp only at h ⊢
  unfold cull_Sift.f
  have := h k hk
  rw [List.append_nil, show kfl [] = [] from rfl, List.append_nil] at this
  rw [if_pos (by omega), if_pos (by omega), w64 (by omega) (by omega)]
  exact this

/-! ### Who is on top of a list at a point -/
def topI (u v : Int) : List S26 → Option S26
  | [] => none
  | x :: r => match topI u v r with
    | some i => some i
    | none => if shows x u v then some x else none
theorem topI_snoc (u v : Int) (i : S26) : ∀ l, topI u v (l ++ [i]) = if shows i u v then some i else topI u v l
  | [] => by
    show (if shows i u v then some i else none) = _
    rfl
  | x :: r => by
    rw [List.cons_append]
    unfold topI
    rw [topI_snoc u v i r]
    by_cases h : shows i u v
    · simp [h]
    · simp [h]
theorem topI_mem (u v : Int) : ∀ (r : List S26) (y : S26), y ∈ r → shows y u v → topI u v r ≠ none
  | [], _, h, _ => by simp at h
  | x :: r, y, h, hs => by
    unfold topI
    rcases List.mem_cons.1 h with rfl | h
    · cases topI u v r with
      | none => simp [hs]
      | some i => simp
    · have := topI_mem u v r y h hs
      cases hh : topI u v r with
      | none => exact absurd hh this
      | some i => simp
theorem own_top (u v : Int) : ∀ (n : Nat) (l : List S26), l.length = n → (topI u v l = none ∧ ownr l u v = none) ∨ ∃ m i, ownr l u v = some m ∧ m < l.length ∧ topI u v l = some i ∧ rd_T26 l (m : Int) = i
  | 0, l, h => by
    obtain rfl : l = [] := List.length_eq_zero_iff.1 h
    exact Or.inl ⟨rfl, rfl⟩
  | n + 1, l, h => by
    obtain ⟨m1, x, rfl⟩ : ∃ m1 x, l = m1 ++ [x] := by
      rcases List.eq_nil_or_concat l with h' | ⟨m1, x, h'⟩
      · rw [h'] at h; simp at h
      · exact ⟨m1, x, by simpa using h'⟩
    have hm : m1.length = n := by simpa using h
    rw [topI_snoc, ownr_snoc]
    by_cases hs : shows x u v
    · rw [if_pos hs, if_pos hs]
      exact Or.inr ⟨m1.length, x, rfl, by simp, rfl, rdi_mid m1 x []⟩
    · rw [if_neg hs, if_neg hs]
      rcases own_top u v n m1 hm with h1 | ⟨m, i, h1, h2, h3, h4⟩
      · exact Or.inl h1
      · refine Or.inr ⟨m, i, h1, by simp; omega, h3, ?_⟩
        rw [rdi] at h4 ⊢
        rw [← h4]
        simp only [List.getD_eq_getElem?_getD]
        rw [List.getElem?_append_left h2]
theorem keep_top (p : S26 → List S26 → Bool) (u v : Int) (hp : ∀ x r, p x r = true → shows x u v → ∃ y ∈ r, shows y u v) : ∀ l, topI u v (keepF p l) = topI u v l
  | [] => rfl
  | x :: r => by
    have ih := keep_top p u v hp r
    unfold keepF
    by_cases h : p x r = true
    · rw [if_pos h, ih]
      show _ = (match topI u v r with | some i => some i | none => if shows x u v then some x else none)
      cases ht : topI u v r with
      | some i => rfl
      | none =>
        have hx : ¬ shows x u v := by
          intro hs
          obtain ⟨y, hy, hs2⟩ := hp x r h hs
          exact topI_mem u v r y hy hs2 ht
        simp [hx]
    · rw [if_neg h]
      unfold topI
      rw [ih]
theorem shows_back {y : S26} {u v : Int} (hz : y.f1 = 0) (h : has (seen y) u v) : shows y u v := by
  obtain ⟨h1, h2⟩ := (has_meet _ _ _ _).1 h
  exact ⟨h1, h2, fun e => by omega⟩
theorem shows_seen {x : S26} {u v : Int} (h : shows x u v) : has (seen x) u v := (has_meet _ _ _ _).2 ⟨h.1, h.2.1⟩
theorem inl_backs (r : List S26) (u v : Int) : inl (backsOf r) u v ↔ ∃ y ∈ r, y.f1 = 0 ∧ has (seen y) u v := by
  unfold inl backsOf
  constructor
  · rintro ⟨q, hq, h⟩
    obtain ⟨y, hy, rfl⟩ := List.mem_map.1 hq
    have := List.mem_filter.1 hy
    exact ⟨y, this.1, by simpa using this.2, h⟩
  · rintro ⟨y, hy, hz, h⟩
    exact ⟨seen y, List.mem_map.2 ⟨y, List.mem_filter.2 ⟨hy, by simpa using hz⟩, rfl⟩, h⟩
theorem hid_pts {x : S26} {r : List S26} (h : hidB x r = true) {u v : Int} (hx : has (seen x) u v) : ∃ y ∈ r, y.f1 = 0 ∧ has (seen y) u v := by
  have ne : ¬ emp (seen x) := by unfold emp; unfold has at hx; omega
  unfold hidB at h
  rw [Bool.or_eq_true, decide_eq_true_eq, List.any_eq_true] at h
  rcases h with h | ⟨y, hy, h⟩
  · exact absurd h ne
  · simp only [Bool.and_eq_true, decide_eq_true_eq] at h
    refine ⟨y, hy, h.1, ?_⟩
    rcases h.2 with h2 | ⟨h2, h3, h4, h5⟩
    · exact absurd h2 ne
    · unfold has at hx ⊢; omega
theorem cov_pts {x : S26} {r : List S26} (h : covB x r = true) {u v : Int} (hx : has (seen x) u v) : ∃ y ∈ r, y.f1 = 0 ∧ has (seen y) u v :=
  (inl_backs r u v).1 ((rest_nil_iff _ _).1 (of_decide_eq_true h) u v hx)
theorem hid_top (l : List S26) (u v : Int) : topI u v (keepF hidB l) = topI u v l :=
  keep_top hidB u v (fun x r h hs => by obtain ⟨y, h1, h2, h3⟩ := hid_pts h (shows_seen hs); exact ⟨y, h1, shows_back h2 h3⟩) l
theorem cov_top (l : List S26) (u v : Int) : topI u v (keepF covB l) = topI u v l :=
  keep_top covB u v (fun x r h hs => by obtain ⟨y, h1, h2, h3⟩ := cov_pts h (shows_seen hs); exact ⟨y, h1, shows_back h2 h3⟩) l

theorem sameitl (l2 : List S26) : ∀ (l1 : List S26) (k : Nat), l2.length < k → (l1 ++ l2).length ≤ 4611686018427387904 → decoupageref25_Same.l0 k (l1 ++ l2) (l1 ++ l2) ((l1 ++ l2).length : Int) (l1.length : Int) = some true := by
  induction l2 with
  | nil =>
    intro l1 k hk _
    obtain ⟨k, rfl⟩ : ∃ m, k = m + 1 := ⟨k - 1, by omega⟩
    simp only [decoupageref25_Same.l0]
    rw [if_neg (mid_ge _)]
  | cons x l2 ih =>
    intro l1 k hk hn
    obtain ⟨k, rfl⟩ : ∃ m, k = m + 1 := ⟨k - 1, by omega⟩
    simp only [List.length_cons] at hk
    simp only [decoupageref25_Same.l0]
    rw [if_pos (mid_lt _ _ _), if_pos (by omega), if_pos (mid_lt _ _ _), if_pos (mid_lt _ _ _), rdi_mid, mid_next l1 x l2 hn]
    rw [mid_app l1 x l2] at hn ⊢
    simp only [beq_self_eq_true, Bool.not_true, Bool.or_self, Bool.false_eq_true, if_false]
    exact ih (l1 ++ [x]) k (by omega) hn
theorem sameit_refl (l : List S26) (k : Nat) (hk : l.length < k) (hn : l.length ≤ 4611686018427387904) : decoupageref25_Same.f k l l = some true := by
  unfold decoupageref25_Same.f
  rw [if_pos rfl]
  exact sameitl l [] k hk hn

theorem awake_ev : Ev (fun k => decoupagelaw27_awake.f k) true := Ev.of (k := 40) (fun k => decoupagelaw27_awake.mono k) (by decide +kernel)

/-! ### Twice -/
/-- Nothing of a list goes. -/
def stays (p : S26 → List S26 → Bool) : List S26 → Prop
  | [] => True
  | x :: r => p x r = false ∧ stays p r
theorem stays_keep (p : S26 → List S26 → Bool) : ∀ l, stays p l → keepF p l = l
  | [], _ => rfl
  | x :: r, h => by
    unfold keepF
    rw [if_neg (by rw [h.1]; decide), stays_keep p r h.2]
theorem keep_sub (p : S26 → List S26 → Bool) : ∀ l, ∀ y ∈ keepF p l, y ∈ l
  | [], y, h => h
  | x :: r, y, h => by
    unfold keepF at h
    split at h
    · exact List.mem_cons_of_mem _ (keep_sub p r y h)
    · rcases List.mem_cons.1 h with rfl | h
      · simp
      · exact List.mem_cons_of_mem _ (keep_sub p r y h)
theorem keep_stays (p : S26 → List S26 → Bool) (hp : ∀ x r r', (∀ y ∈ r', y ∈ r) → p x r' = true → p x r = true) : ∀ l, stays p (keepF p l)
  | [] => trivial
  | x :: r => by
    unfold keepF
    by_cases h : p x r = true
    · rw [if_pos h]; exact keep_stays p hp r
    · rw [if_neg h]
      refine ⟨?_, keep_stays p hp r⟩
      rw [Bool.eq_false_iff]
      intro h2
      exact h (hp x r _ (keep_sub p r) h2)
theorem hid_mono (x : S26) (r r' : List S26) (hs : ∀ y ∈ r', y ∈ r) (h : hidB x r' = true) : hidB x r = true := by
  unfold hidB at h ⊢
  rw [Bool.or_eq_true, List.any_eq_true] at h ⊢
  rcases h with h | ⟨y, hy, h⟩
  · exact Or.inl h
  · exact Or.inr ⟨y, hs y hy, h⟩
theorem cov_iff (x : S26) (r : List S26) : covB x r = true ↔ ∀ u v, has (seen x) u v → ∃ y ∈ r, y.f1 = 0 ∧ has (seen y) u v := by
  unfold covB
  rw [decide_eq_true_eq, rest_nil_iff]
  constructor
  · intro h u v hx; exact (inl_backs r u v).1 (h u v hx)
  · intro h u v hx; exact (inl_backs r u v).2 (h u v hx)
theorem cov_mono (x : S26) (r r' : List S26) (hs : ∀ y ∈ r', y ∈ r) (h : covB x r' = true) : covB x r = true := by
  rw [cov_iff] at h ⊢
  intro u v hx
  obtain ⟨y, hy, h2⟩ := h u v hx
  exact ⟨y, hs y hy, h2⟩
theorem hid_union (u v : Int) : ∀ l : List S26, (∃ y ∈ l, y.f1 = 0 ∧ has (seen y) u v) → ∃ y ∈ keepF hidB l, y.f1 = 0 ∧ has (seen y) u v
  | [], h => h
  | x :: r, ⟨y, hy, hz, hh⟩ => by
    unfold keepF
    by_cases h : hidB x r = true
    · rw [if_pos h]
      rcases List.mem_cons.1 hy with rfl | hy
      · exact hid_union u v r (hid_pts h hh)
      · exact hid_union u v r ⟨y, hy, hz, hh⟩
    · rw [if_neg h]
      rcases List.mem_cons.1 hy with rfl | hy
      · exact ⟨y, by simp, hz, hh⟩
      · obtain ⟨w, h1, h2⟩ := hid_union u v r ⟨y, hy, hz, hh⟩
        exact ⟨w, List.mem_cons_of_mem _ h1, h2⟩
theorem keep_both : ∀ l : List S26, keepF covB (keepF hidB l) = keepF covB l
  | [] => rfl
  | x :: r => by
    have ih := keep_both r
    by_cases h : hidB x r = true
    · have hc : covB x r = true := (cov_iff x r).2 fun u v hx => hid_pts h hx
      show keepF covB (if hidB x r = true then keepF hidB r else x :: keepF hidB r) = (if covB x r = true then keepF covB r else x :: keepF covB r)
      rw [if_pos h, if_pos hc, ih]
    · have hc : covB x (keepF hidB r) = covB x r := by
        rw [Bool.eq_iff_iff]
        constructor
        · exact cov_mono x r _ (keep_sub hidB r)
        · intro hc
          rw [cov_iff] at hc ⊢
          intro u v hx
          exact hid_union u v r (hc u v hx)
      show keepF covB (if hidB x r = true then keepF hidB r else x :: keepF hidB r) = (if covB x r = true then keepF covB r else x :: keepF covB r)
      rw [if_neg h]
      show (if covB x (keepF hidB r) = true then keepF covB (keepF hidB r) else x :: keepF covB (keepF hidB r)) = _
      rw [hc, ih]
theorem twicel (b : List S26) (R : Bool) (l2 : List S26) : ∀ (l1 : List S26), (∀ x ∈ l2, Q26 x) → (l1 ++ l2).length ≤ 1000 → stays hidB l2 →
    (∃ K, ∀ k, K ≤ k → decoupagelaw27_CullTwice.l0 k (l1 ++ l2) b ((l1 ++ l2).length : Int) ((l1 ++ l2).length : Int) = some R) →
    Ev (fun k => decoupagelaw27_CullTwice.l0 k (l1 ++ l2) b ((l1 ++ l2).length : Int) (l1.length : Int)) R := by
  induction l2 with
  | nil =>
    intro l1 _ _ _ h
    rw [List.append_nil] at h ⊢
    exact h
  | cons x l2 ih =>
    intro l1 hq hn hs h
    have nx := ih (l1 ++ [x]) (fun y hy => hq y (List.mem_cons_of_mem _ hy)) (by rw [← mid_app]; exact hn) hs.2 (by rw [← mid_app]; exact h)
    rw [← mid_app] at nx
    obtain ⟨K, hK⟩ := nx
    dsimp only at hK
    refine ⟨K + l2.length + 5, fun k hk => ?_⟩
    obtain ⟨k, rfl⟩ : ∃ m, k = m + 1 := ⟨k - 1, by omega⟩
    simp only [decoupagelaw27_CullTwice.l0]
    rw [if_pos (mid_lt _ _ _), rhidden_eq l1 x l2 (hq x (by simp)) k (by omega) (by omega), hs.1]
    simp only [Option.bind_some]
    rw [if_neg (by decide), mid_next l1 x l2 (by omega)]
    exact hK k (by omega)
theorem CullTwice : ∀ (l0 : List S26), (∀ x ∈ l0, Q26 x) → ∃ k, decoupagelaw27_CullTwice.f k l0 = some true := by
  intro l hq
  obtain ⟨KA, hA⟩ := awake_ev
  dsimp only at hA
  by_cases hl : (l.length : Int) > 8
  · refine ⟨KA + 1, ?_⟩
    unfold decoupagelaw27_CullTwice.f
    rw [hA _ (by omega)]
    simp only [Option.bind_some, if_true, decoupagelaw27_CullTwice.j0]
    rw [if_pos (by simpa using hl), hA _ (by omega)]
    rfl
  · have n1 := keepF_len covB l
    have n2 := keepF_len hidB l
    have sa := keep_stays hidB hid_mono l
    have sb := keep_stays covB cov_mono l
    have ea := stays_keep hidB _ sa
    have eb := stays_keep covB _ sb
    have eab := keep_both l
    have hlen := keepF_len covB (keepF hidB l)
    rw [eab] at hlen
    have hqa : ∀ x ∈ keepF hidB l, Q26 x := fun x hx => hq x (keep_sub hidB l x hx)
    obtain ⟨K1, h1⟩ := sift_eq l (by omega)
    obtain ⟨K2, h2⟩ := sift_eq (keepF hidB l) (by omega)
    obtain ⟨K3, h3⟩ := sift_eq (keepF covB l) (by omega)
    dsimp only at h1 h2 h3
    rw [eab] at h2
    rw [eb] at h3
    have cu : ∀ k, 2 * l.length + 2 < k → cull_Cull.f k l = some (keepF hidB l) := fun k hk => cull_eq l k hk (by omega)
    have cu2 : ∀ k, 2 * l.length + 2 < k → cull_Cull.f k (keepF hidB l) = some (keepF hidB l) := fun k hk => by
      have := cull_eq (keepF hidB l) k (by omega) (by omega)
      rw [ea] at this
      exact this
    generalize keepF hidB l = a at *
    generalize keepF covB l = b at *
    obtain ⟨K4, h4⟩ := twicel b true a [] hqa (by simp; omega) sa ⟨K2 + K3 + 2 * l.length + 10, fun k hk => by
      obtain ⟨k, rfl⟩ : ∃ m, k = m + 1 := ⟨k - 1, by omega⟩
      rw [List.nil_append]
      simp only [decoupagelaw27_CullTwice.l0]
      rw [if_neg (by omega), cu2 k (by omega), h2 k (by omega), h3 k (by omega)]
      simp only [Option.bind_some]
      rw [sameit_refl a k (by omega) (by omega), sameit_refl b k (by omega) (by omega)]
      simp only [Option.bind_some, if_true]
      rw [decide_eq_true (by omega)]⟩
    dsimp only at h4
    refine ⟨KA + K1 + K4 + 2 * l.length + 10, ?_⟩
    unfold decoupagelaw27_CullTwice.f
    rw [hA _ (by omega)]
    simp only [Option.bind_some, if_true, decoupagelaw27_CullTwice.j0]
    rw [if_neg (by simpa using hl), h1 _ (by omega), cu _ (by omega)]
    simp only [Option.bind_some]
    exact h4 _ (by omega)

end Go.Proofs.Ytipcledgblodjaa.Pure
