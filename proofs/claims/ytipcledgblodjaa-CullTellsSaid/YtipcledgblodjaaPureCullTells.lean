/- What is proved: Cull and Hidden give the specified results. Conditions: none. -/
import Derived.Test.YtipcledgblodjaaMCullTells
import Derived.Test.YtipcledgblodjaaOpens
namespace Go.Proofs.Ytipcledgblodjaa.Pure
open Go.RowKit Go.Proofs.Ytipcledgblodjaa.PCullTells Go.Proofs.YtipcledgblodjaaW.PrintWords Go.Proofs.YtipcledgblodjaaW.PrintLast
set_option linter.unusedSimpArgs false
set_option linter.unusedVariables false
open Go.Proofs.Ytipcledgblodjaa.Opens

/-! ### A rectangle's points, in plain words -/
/-- No point is in it. -/
def emp (r : S24) : Prop := r.f0 ≥ r.f2 ∨ r.f1 ≥ r.f3
instance (r : S24) : Decidable (emp r) := by unfold emp; exact inferInstance
/-- A point is in it. -/
def has (r : S24) (x y : Int) : Prop := r.f0 ≤ x ∧ x < r.f2 ∧ r.f1 ≤ y ∧ y < r.f3
instance (r : S24) (x y : Int) : Decidable (has r x y) := by unfold has; exact inferInstance

theorem empty_eq (r : S24) : rect_Empty.f r.f0 r.f1 r.f2 r.f3 = some (decide (emp r)) := by
  unfold rect_Empty.f emp
  by_cases h : r.f0 ≥ r.f2
  · rw [if_pos h]; simp [h]
  · rw [if_neg h]; simp [h]

theorem rholds_eq (r : S24) (x y : Int) : decoupageref02_Holds.f r.f0 r.f1 r.f2 r.f3 x y = some (decide (has r x y)) := by
  unfold decoupageref02_Holds.f has
  by_cases h1 : r.f0 ≤ x
  · by_cases h2 : x < r.f2
    · by_cases h3 : r.f1 ≤ y
      · rw [if_pos h1, if_pos h2, if_pos h3]; simp [h1, h2, h3]
      · rw [if_pos h1, if_pos h2, if_neg h3]; simp [h3]
    · rw [if_pos h1, if_neg h2]; simp [h2]
  · rw [if_neg h1]; simp [h1]

theorem rempty_eq (r : S24) : decoupageref02_Empty.f r.f0 r.f1 r.f2 r.f3 = some (decide (emp r)) := by
  unfold decoupageref02_Empty.f
  rw [rholds_eq]
  simp only [Option.bind_some]
  by_cases h : emp r
  · have h1 : ¬ has r r.f0 r.f1 := by unfold emp at h; unfold has; omega
    simp [h, h1]
  · have h1 : has r r.f0 r.f1 := by unfold emp at h; unfold has; omega
    simp [h, h1]

/-- What two have in common. -/
def meet (a b : S24) : S24 :=
  if emp ⟨mx a.f0 b.f0, mx a.f1 b.f1, mn a.f2 b.f2, mn a.f3 b.f3⟩ then ⟨0, 0, 0, 0⟩ else ⟨mx a.f0 b.f0, mx a.f1 b.f1, mn a.f2 b.f2, mn a.f3 b.f3⟩
theorem meet_eq (a b : S24) : rect_Meet.f a.f0 a.f1 a.f2 a.f3 b.f0 b.f1 b.f2 b.f3 = some ((meet a b).f0, (meet a b).f1, (meet a b).f2, (meet a b).f3) := by
  unfold rect_Meet.f meet
  have h := empty_eq ⟨mx a.f0 b.f0, mx a.f1 b.f1, mn a.f2 b.f2, mn a.f3 b.f3⟩
  rw [h]
  simp only [Option.bind_some]
  by_cases h1 : emp ⟨mx a.f0 b.f0, mx a.f1 b.f1, mn a.f2 b.f2, mn a.f3 b.f3⟩
  · simp [h1]
  · simp [h1]
theorem mx_le {a b c : Int} : mx a b ≤ c ↔ a ≤ c ∧ b ≤ c := by unfold mx; split <;> omega
theorem lt_mn {a b c : Int} : c < mn a b ↔ c < a ∧ c < b := by unfold mn; split <;> omega
theorem mx_or (a b : Int) : mx a b = a ∧ b ≤ a ∨ mx a b = b ∧ a ≤ b := by unfold mx; split <;> omega
theorem mn_or (a b : Int) : mn a b = a ∧ a ≤ b ∨ mn a b = b ∧ b ≤ a := by unfold mn; split <;> omega
theorem has_meet (a b : S24) (x y : Int) : has (meet a b) x y ↔ has a x y ∧ has b x y := by
  unfold meet
  have e0 := mx_or a.f0 b.f0; have e1 := mx_or a.f1 b.f1; have e2 := mn_or a.f2 b.f2; have e3 := mn_or a.f3 b.f3
  split
  · rename_i h; unfold emp at h; unfold has; simp only at h ⊢; omega
  · rename_i h; unfold emp at h; unfold has; simp only at h ⊢; omega

/-- Its numbers are whole numbers of their kinds. -/
def Q24 (x : S24) : Prop := I64 x.f0 ∧ I64 x.f1 ∧ I64 x.f2 ∧ I64 x.f3

/-! ### A loop over a list, place by place -/
theorem w64 {n : Int} (h1 : -9223372036854775808 ≤ n) (h2 : n ≤ 9223372036854775807) : wrap64 n = n := by unfold wrap64; omega
theorem mid_lt {α : Type} (l1 : List α) (x : α) (l2 : List α) : ((l1.length : Int) < ((l1 ++ x :: l2).length : Int)) := by simp; omega
theorem mid_ge {α : Type} (l1 : List α) : ¬ ((l1.length : Int) < ((l1 ++ []).length : Int)) := by simp
theorem mid_next {α : Type} (l1 : List α) (x : α) (l2 : List α) (h : (l1 ++ x :: l2).length ≤ 4611686018427387904) : wrap64 ((l1.length : Int) + 1) = ((l1 ++ [x]).length : Int) := by
  simp at h ⊢
  rw [w64 (by omega) (by omega)]
theorem mid_app {α : Type} (l1 : List α) (x : α) (l2 : List α) : l1 ++ x :: l2 = (l1 ++ [x]) ++ l2 := by simp

theorem rd_mid (l1 : List S24) (x : S24) (l2 : List S24) : rd_T24 (l1 ++ x :: l2) (l1.length : Int) = x := by
  unfold rd_T24
  simp

/-! ### What is left of one without another one -/
/-- A rectangle has points. -/
def ne (r : S24) : Bool := !decide (emp r)
theorem ne_eq (r : S24) : ne r = decide (r.f0 < r.f2 ∧ r.f1 < r.f3) := by
  unfold ne
  by_cases h : emp r
  · have h2 : ¬ (r.f0 < r.f2 ∧ r.f1 < r.f3) := by unfold emp at h; omega
    rw [decide_eq_true h, decide_eq_false h2]; rfl
  · have h2 : r.f0 < r.f2 ∧ r.f1 < r.f3 := by unfold emp at h; omega
    rw [decide_eq_false h, decide_eq_true h2]; rfl
/-- What is cut out. -/
def cm (a b : S24) : S24 := if emp (meet a b) then ⟨a.f0, a.f3, a.f2, a.f3⟩ else meet a b
/-- The four pieces around what is cut out of a. -/
def pcs (a m : S24) : List S24 := [⟨a.f0, a.f1, a.f2, m.f1⟩, ⟨a.f0, m.f3, a.f2, a.f3⟩, ⟨a.f0, m.f1, m.f0, m.f3⟩, ⟨m.f2, m.f1, a.f2, m.f3⟩]
/-- What is left of a without b. -/
def cut (a b : S24) : List S24 := (pcs a (cm a b)).filter ne
theorem cutl (l2 : List S24) : ∀ (l1 acc : List S24) (k : Nat), l2.length < k → acc.length + l2.length < 4398046511104 → (l1 ++ l2).length ≤ 4611686018427387904 →
    rect_Cut.l0 k acc (l1 ++ l2) ((l1 ++ l2).length : Int) (l1.length : Int) = some (acc ++ l2.filter ne) := by
  induction l2 with
  | nil =>
    intro l1 acc k hk _ _
    obtain ⟨k, rfl⟩ : ∃ m, k = m + 1 := ⟨k - 1, by omega⟩
    simp only [rect_Cut.l0]
    rw [if_neg (mid_ge _)]
    simp
  | cons x l2 ih =>
    intro l1 acc k hk ha hn
    obtain ⟨k, rfl⟩ : ∃ m, k = m + 1 := ⟨k - 1, by omega⟩
    simp only [List.length_cons] at hk ha
    simp only [rect_Cut.l0]
    rw [if_pos (mid_lt _ _ _), if_pos (by omega), if_pos (mid_lt _ _ _), rd_mid, empty_eq, mid_next l1 x l2 hn]
    simp only [Option.bind_some]
    rw [mid_app] at hn ⊢
    by_cases he : emp x
    · rw [if_pos (by simpa using he), ih (l1 ++ [x]) acc k (by omega) (by omega) hn]
      simp [ne, he]
    · rw [if_neg (by simpa using he), if_pos (by omega), ih (l1 ++ [x]) (acc ++ [x]) k (by omega) (by simp; omega) hn]
      simp [ne, he]
theorem cut_eq (a b : S24) (k : Nat) (hk : 6 ≤ k) : rect_Cut.f k a.f0 a.f1 a.f2 a.f3 b.f0 b.f1 b.f2 b.f3 = some (cut a b) := by
  obtain ⟨k, rfl⟩ : ∃ m, k = m + 1 := ⟨k - 1, by omega⟩
  have hj : ∀ m : S24, rect_Cut.j0 (k + 1) a.f0 a.f1 a.f2 a.f3 m.f0 m.f1 m.f2 m.f3 = some ((pcs a m).filter ne) := fun m => by
    simp only [rect_Cut.j0, Option.bind_some]
    have := cutl (pcs a m) [] [] k (by simp [pcs]; omega) (by simp [pcs]) (by simp [pcs])
    simpa [pcs] using this
  unfold rect_Cut.f
  rw [meet_eq]
  simp only [Option.bind_some]
  rw [empty_eq (meet a b)]
  simp only [Option.bind_some]
  unfold cut cm
  by_cases h : emp (meet a b)
  · rw [if_pos (by simpa using h), if_pos h]
    exact hj ⟨a.f0, a.f3, a.f2, a.f3⟩
  · rw [if_neg (by simpa using h), if_neg h]
    exact hj (meet a b)
/-- In how many of some a point is. -/
def cnt (l : List S24) (x y : Int) : Nat := l.countP fun r => decide (has r x y)
theorem cnt_filter (l : List S24) (x y : Int) : cnt (l.filter ne) x y = cnt l x y := by
  unfold cnt
  rw [List.countP_filter]
  apply List.countP_congr
  intro r _
  have : has r x y → ¬ emp r := by unfold has emp; omega
  simp only [Bool.and_eq_true, decide_eq_true_eq, ne, Bool.not_eq_true', decide_eq_false_iff_not]
  exact ⟨fun h => h.1, fun h => ⟨h, this h⟩⟩
theorem cm_cases (a b : S24) : (cm a b = ⟨a.f0, a.f3, a.f2, a.f3⟩ ∧ ∀ x y, has a x y → ¬ has b x y) ∨
    (a.f0 ≤ (cm a b).f0 ∧ (cm a b).f0 < (cm a b).f2 ∧ (cm a b).f2 ≤ a.f2 ∧ a.f1 ≤ (cm a b).f1 ∧ (cm a b).f1 < (cm a b).f3 ∧ (cm a b).f3 ≤ a.f3 ∧ ∀ x y, has (cm a b) x y ↔ has a x y ∧ has b x y) := by
  unfold cm
  by_cases h : emp (meet a b)
  · rw [if_pos h]
    left
    refine ⟨rfl, fun x y h1 h2 => ?_⟩
    have h3 := (has_meet a b x y).2 ⟨h1, h2⟩
    unfold has at h3
    unfold emp at h
    omega
  · rw [if_neg h]
    right
    have hm := has_meet a b
    unfold emp at h
    have e0 := mx_or a.f0 b.f0; have e1 := mx_or a.f1 b.f1; have e2 := mn_or a.f2 b.f2; have e3 := mn_or a.f3 b.f3
    refine ⟨?_, by omega, ?_, ?_, by omega, ?_, hm⟩
    all_goals
      revert h
      unfold meet
      split
      · simp
      · simp only; omega
theorem cnt_pcs (a m : S24) (x y : Int) : cnt (pcs a m) x y =
    (if has ⟨a.f0, a.f1, a.f2, m.f1⟩ x y then 1 else 0) + (if has ⟨a.f0, m.f3, a.f2, a.f3⟩ x y then 1 else 0) +
    (if has ⟨a.f0, m.f1, m.f0, m.f3⟩ x y then 1 else 0) + (if has ⟨m.f2, m.f1, a.f2, m.f3⟩ x y then 1 else 0) := by
  unfold cnt pcs
  simp only [List.countP_cons, List.countP_nil, decide_eq_true_eq]
  omega
theorem cnt_cut (a b : S24) (x y : Int) : cnt (cut a b) x y = if has a x y ∧ ¬ has b x y then 1 else 0 := by
  unfold cut
  rw [cnt_filter, cnt_pcs]
  rcases cm_cases a b with ⟨e, h⟩ | ⟨h0, h1, h2, h3, h4, h5, h6⟩
  · rw [e]
    have h' := h x y
    by_cases hb : has b x y
    · have ha : ¬ has a x y := fun ha => h' ha hb
      simp only [ha, false_and, if_false]
      (repeat' split) <;> simp only [has] at * <;> omega
    · simp only [hb, not_false_eq_true, and_true]
      clear h h' hb e
      (repeat' split) <;> simp only [has] at * <;> omega
  · have h' := h6 x y
    clear h6
    by_cases ha : has a x y
    · by_cases hb : has b x y
      · have hm := h'.2 ⟨ha, hb⟩
        simp only [hb, not_true, and_false, if_false]
        clear h' ha hb
        (repeat' split) <;> simp only [has] at * <;> omega
      · have hm : ¬ has (cm a b) x y := fun hm => hb (h'.1 hm).2
        simp only [ha, hb, not_false_eq_true, and_true, if_true]
        clear h' hb
        (repeat' split) <;> simp only [has] at * <;> omega
    · simp only [ha, false_and, if_false]
      clear h'
      (repeat' split) <;> simp only [has] at * <;> omega

/-! ### What is left of one without others -/
/-- A point is in one of some. -/
def inl (l : List S24) (x y : Int) : Prop := ∃ q ∈ l, has q x y
theorem inl_nil (x y : Int) : ¬ inl [] x y := by rintro ⟨q, h, _⟩; simp at h
theorem inl_cons (q : S24) (l : List S24) (x y : Int) : inl (q :: l) x y ↔ has q x y ∨ inl l x y := by
  unfold inl; simp
theorem inl_app (l m : List S24) (x y : Int) : inl (l ++ m) x y ↔ inl l x y ∨ inl m x y := by
  unfold inl
  constructor
  · rintro ⟨q, h, h2⟩
    rcases List.mem_append.1 h with h | h
    · exact .inl ⟨q, h, h2⟩
    · exact .inr ⟨q, h, h2⟩
  · rintro (⟨q, h, h2⟩ | ⟨q, h, h2⟩)
    · exact ⟨q, List.mem_append_left _ h, h2⟩
    · exact ⟨q, List.mem_append_right _ h, h2⟩
instance (l : List S24) (x y : Int) : Decidable (inl l x y) := by unfold inl; exact inferInstance
theorem inl_cnt (l : List S24) (x y : Int) : inl l x y ↔ 1 ≤ cnt l x y := by
  unfold inl cnt
  rw [Nat.succ_le_iff, List.countP_pos_iff]
  simp
theorem cnt_app (l m : List S24) (x y : Int) : cnt (l ++ m) x y = cnt l x y + cnt m x y := List.countP_append
theorem cnt_cons (q : S24) (l : List S24) (x y : Int) : cnt (q :: l) x y = cnt l x y + if has q x y then 1 else 0 := by
  unfold cnt; rw [List.countP_cons]; simp
/-- All of some without one. -/
def cuts (left : List S24) (q : S24) : List S24 := left.flatMap fun y => cut y q
theorem cnt_cuts (left : List S24) (q : S24) (x y : Int) : cnt (cuts left q) x y = if has q x y then 0 else cnt left x y := by
  unfold cuts
  induction left with
  | nil => simp [cnt]
  | cons a left ih =>
    rw [List.flatMap_cons, cnt_app, ih, cnt_cut, cnt_cons]
    by_cases h1 : has q x y <;> by_cases h2 : has a x y <;> simp [h1, h2] <;> omega
/-- What is left of one, others cut off one behind the other. -/
def rest (r : S24) (l : List S24) : List S24 := l.foldl cuts (if emp r then [] else [r])
theorem rest_nil (r : S24) : rest r [] = if emp r then [] else [r] := rfl
theorem rest_snoc (r : S24) (l : List S24) (q : S24) : rest r (l ++ [q]) = cuts (rest r l) q := by
  unfold rest; rw [List.foldl_append]; rfl
theorem cnt_fold (l : List S24) (x y : Int) : ∀ left, cnt (l.foldl cuts left) x y = if inl l x y then 0 else cnt left x y := by
  induction l with
  | nil => intro left; simp [inl_nil]
  | cons q l ih =>
    intro left
    rw [List.foldl_cons, ih, cnt_cuts]
    by_cases h1 : has q x y <;> by_cases h2 : inl l x y <;> simp [h1, h2, inl_cons]
theorem cnt_rest (r : S24) (l : List S24) (x y : Int) : cnt (rest r l) x y = if has r x y ∧ ¬ inl l x y then 1 else 0 := by
  unfold rest
  rw [cnt_fold]
  by_cases h0 : emp r
  · have h1 : ¬ has r x y := by unfold emp at h0; unfold has; omega
    simp [h0, h1, cnt]
  · by_cases h1 : has r x y <;> by_cases h2 : inl l x y <;> simp [h0, h1, h2, cnt]
theorem ne_cut (a b : S24) : ∀ q ∈ cut a b, ¬ emp q := by
  intro q hq
  unfold cut at hq
  have := (List.mem_filter.1 hq).2
  simpa [ne] using this
theorem ne_fold (l : List S24) : ∀ left : List S24, (∀ q ∈ left, ¬ emp q) → ∀ q ∈ l.foldl cuts left, ¬ emp q := by
  induction l with
  | nil => intro left h; exact h
  | cons b l ih =>
    intro left h
    rw [List.foldl_cons]
    refine ih _ fun q hq => ?_
    unfold cuts at hq
    obtain ⟨a, _, ha⟩ := List.mem_flatMap.1 hq
    exact ne_cut a b q ha
theorem ne_rest (r : S24) (l : List S24) : ∀ q ∈ rest r l, ¬ emp q := by
  refine ne_fold l _ fun q hq => ?_
  by_cases h : emp r
  · simp [h] at hq
  · simp [h] at hq; subst hq; exact h
theorem has_corner {q : S24} (h : ¬ emp q) : has q q.f0 q.f1 := by unfold emp at h; unfold has; omega
/-- Nothing is left just where all is in the others. -/
theorem rest_nil_iff (r : S24) (l : List S24) : rest r l = [] ↔ ∀ x y, has r x y → inl l x y := by
  constructor
  · intro h x y hr
    have := cnt_rest r l x y
    rw [h] at this
    by_cases hi : inl l x y
    · exact hi
    · simp [hr, hi, cnt] at this
  · intro h
    cases hl : rest r l with
    | nil => rfl
    | cons q m =>
      have hq := ne_rest r l q (by rw [hl]; simp)
      have h1 := cnt_rest r l q.f0 q.f1
      rw [hl, cnt_cons, if_pos (has_corner hq)] at h1
      split at h1
      · rename_i h2; exact absurd (h _ _ h2.1) h2.2
      · omega
theorem cuts_len (left : List S24) (q : S24) : (cuts left q).length ≤ 4 * left.length := by
  unfold cuts
  induction left with
  | nil => simp
  | cons a left ih =>
    rw [List.flatMap_cons, List.length_append, List.length_cons]
    have : (cut a q).length ≤ 4 := List.length_filter_le ne (pcs a (cm a q))
    omega
theorem rest_len (r : S24) (l : List S24) : (rest r l).length ≤ 4 ^ l.length := by
  unfold rest
  have key : ∀ (l left : List S24), (l.foldl cuts left).length ≤ 4 ^ l.length * left.length := by
    intro l
    induction l with
    | nil => intro left; simp
    | cons q l ih =>
      intro left
      rw [List.foldl_cons, List.length_cons, Nat.pow_succ, Nat.mul_assoc]
      exact Nat.le_trans (ih _) (Nat.mul_le_mul_left _ (cuts_len left q))
  have h := key l (if emp r then [] else [r])
  split at h
  · simp at h ⊢; rename_i h0; simp [h0, h]
  · rename_i h0; simpa [h0] using h

theorem rmeet_eq (a b : S24) (k : Nat) (hk : 3 ≤ k) : decoupageref02_Meet.f k a.f0 a.f1 a.f2 a.f3 b.f0 b.f1 b.f2 b.f3 = some ((meet a b).f0, (meet a b).f1, (meet a b).f2, (meet a b).f3) := by
  obtain ⟨k, rfl⟩ : ∃ m, k = m + 3 := ⟨k - 3, by omega⟩
  have hE : ∀ p q r s : Int, decoupageref02_Empty.f p q r s = some (decide (emp ⟨p, q, r, s⟩)) := fun p q r s => rempty_eq ⟨p, q, r, s⟩
  unfold decoupageref02_Meet.f meet
  simp only [decoupageref02_Meet.j0, decoupageref02_Meet.j1, decoupageref02_Meet.j2, hE, Option.bind_some, mx, mn]
  simp only [gt_iff_lt]
  by_cases h0 : a.f0 < b.f0 <;> by_cases h1 : a.f1 < b.f1 <;> by_cases h2 : b.f2 < a.f2 <;> by_cases h3 : b.f3 < a.f3 <;>
    simp only [h0, h1, h2, h3, if_true, if_false] <;> split <;> simp_all

/-- All points of a are in b. -/
def ins (a b : S24) : Prop := emp a ∨ (a.f0 ≥ b.f0 ∧ a.f2 ≤ b.f2 ∧ a.f1 ≥ b.f1 ∧ a.f3 ≤ b.f3)
instance (a b : S24) : Decidable (ins a b) := by unfold ins; exact inferInstance
theorem ins_eq (a b : S24) : rect_Inside.f a.f0 a.f1 a.f2 a.f3 b.f0 b.f1 b.f2 b.f3 = some (decide (ins a b)) := by
  unfold rect_Inside.f ins
  rw [empty_eq]
  simp only [Option.bind_some]
  by_cases h0 : emp a
  · rw [if_pos (by simpa using h0)]; simp [h0]
  rw [if_neg (by simpa using h0)]
  by_cases h1 : a.f0 ≥ b.f0
  · by_cases h2 : a.f2 ≤ b.f2
    · by_cases h3 : a.f1 ≥ b.f1
      · rw [if_pos h1, if_pos h2, if_pos h3]; simp [h0, h1, h2, h3]
      · rw [if_pos h1, if_pos h2, if_neg h3]; simp [h0, h3]
    · rw [if_pos h1, if_neg h2]; simp [h0, h2]
  · rw [if_neg h1]; simp [h0, h1]

theorem rins_eq (a b : S24) (ha : Q24 a) : decoupageref02_Inside.f a.f0 a.f1 a.f2 a.f3 b.f0 b.f1 b.f2 b.f3 = some (decide (ins a b)) := by
  have hH : ∀ x y : Int, decoupageref02_Holds.f b.f0 b.f1 b.f2 b.f3 x y = some (decide (has b x y)) := fun x y => rholds_eq b x y
  unfold decoupageref02_Inside.f
  rw [rempty_eq, hH, hH]
  simp only [Option.bind_some]
  unfold Q24 I64 at ha
  by_cases h0 : emp a
  · have h1 : ins a b := .inl h0
    simp [h0, h1]
  have h0' := h0
  unfold emp at h0'
  have e2 : wrap64 (a.f2 - 1) = a.f2 - 1 := by unfold wrap64; omega
  have e3 : wrap64 (a.f3 - 1) = a.f3 - 1 := by unfold wrap64; omega
  rw [e2, e3]
  have key : ins a b ↔ has b a.f0 a.f1 ∧ has b (a.f2 - 1) (a.f3 - 1) := by
    constructor
    · rintro (h | h)
      · exact absurd h h0
      · unfold has; omega
    · intro h
      right
      unfold has at h
      omega
  by_cases h1 : has b a.f0 a.f1 <;> simp [h0, h1, key]

/-! ### Items: who shows at a point -/
/-- Its numbers are whole numbers of their kinds. -/
def Q26 (x : S26) : Prop := I64 x.f0 ∧ I64 x.f1 ∧ Q24 x.f2 ∧ Q24 x.f3 ∧ Q24 x.f4 ∧ I64 x.f5
/-- An item shows at a point. -/
def shows (i : S26) (x y : Int) : Prop := has i.f2 x y ∧ has i.f4 x y ∧ (i.f1 = 1 → ¬ has i.f3 x y)
instance (i : S26) (x y : Int) : Decidable (shows i x y) := by unfold shows; exact inferInstance
theorem rdi (l : List S26) (n : Nat) : rd_T26 l (n : Int) = l.getD n z26 := by unfold rd_T26; simp
theorem rdi_mid (l1 : List S26) (x : S26) (l2 : List S26) : rd_T26 (l1 ++ x :: l2) (l1.length : Int) = x := by unfold rd_T26; simp
/-- Of the first n the last one that shows. -/
def ownAt (l : List S26) (x y : Int) : Nat → Option Nat
  | 0 => none
  | n + 1 => if shows (l.getD n z26) x y then some n else ownAt l x y n
theorem ownAt_lt (l : List S26) (x y : Int) : ∀ n m, ownAt l x y n = some m → m < n ∧ shows (l.getD m z26) x y ∧ ∀ j, m < j → j < n → ¬ shows (l.getD j z26) x y
  | 0, m, h => by simp [ownAt] at h
  | n + 1, m, h => by
    unfold ownAt at h
    split at h
    · rename_i hs
      obtain rfl := Option.some.inj h
      exact ⟨by omega, hs, fun j h1 h2 => by omega⟩
    · rename_i hs
      obtain ⟨h1, h2, h3⟩ := ownAt_lt l x y n m h
      refine ⟨by omega, h2, fun j h4 h5 => ?_⟩
      rcases Nat.lt_or_ge j n with h6 | h6
      · exact h3 j h4 h6
      · obtain rfl : j = n := by omega
        exact hs
theorem ownAt_none (l : List S26) (x y : Int) : ∀ n, ownAt l x y n = none → ∀ j, j < n → ¬ shows (l.getD j z26) x y
  | 0, _, j, hj => by omega
  | n + 1, h, j, hj => by
    unfold ownAt at h
    split at h
    · cases h
    · rename_i hs
      rcases Nat.lt_or_ge j n with h6 | h6
      · exact ownAt_none l x y n h j h6
      · obtain rfl : j = n := by omega
        exact hs
theorem ownAt_app (l l2 : List S26) (x y : Int) : ∀ n, n ≤ l.length → ownAt (l ++ l2) x y n = ownAt l x y n
  | 0, _ => rfl
  | n + 1, h => by
    unfold ownAt
    have e : (l ++ l2).getD n z26 = l.getD n z26 := by
      simp only [List.getD_eq_getElem?_getD]
      rw [List.getElem?_append_left (by omega)]
    rw [e, ownAt_app l l2 x y n (by omega)]
/-- Who owns a point. -/
def ownr (l : List S26) (x y : Int) : Option Nat := ownAt l x y l.length
theorem ownr_snoc (l : List S26) (i : S26) (x y : Int) : ownr (l ++ [i]) x y = if shows i x y then some l.length else ownr l x y := by
  unfold ownr
  rw [List.length_append, List.length_singleton]
  show (if _ then _ else _) = _
  have e : (l ++ [i]).getD l.length z26 = i := by simp
  rw [e, ownAt_app l [i] x y l.length (Nat.le_refl _)]
theorem ownr_lt {l : List S26} {x y : Int} {m : Nat} (h : ownr l x y = some m) : m < l.length := (ownAt_lt l x y _ m h).1

/-- What may be seen of an item. -/
def seen (i : S26) : S24 := meet i.f2 i.f4
theorem seen_eq (i : S26) : owner_Seen.f i.f0 i.f1 i.f2.f0 i.f2.f1 i.f2.f2 i.f2.f3 i.f3.f0 i.f3.f1 i.f3.f2 i.f3.f3 i.f4.f0 i.f4.f1 i.f4.f2 i.f4.f3 i.f5 = some ((seen i).f0, (seen i).f1, (seen i).f2, (seen i).f3) := by
  unfold owner_Seen.f seen
  rw [meet_eq]
  rfl

/-! ### What is hidden, and what stays -/
/-- What stays of a list. -/
def keepF (p : S26 → List S26 → Bool) : List S26 → List S26
  | [] => []
  | x :: r => if p x r then keepF p r else x :: keepF p r
theorem keepF_len (p : S26 → List S26 → Bool) : ∀ l, (keepF p l).length ≤ l.length
  | [] => Nat.le_refl _
  | x :: r => by
    have := keepF_len p r
    unfold keepF
    split
    · simp; omega
    · simp; omega
def backsOf (l : List S26) : List S24 := (l.filter fun y => decide (y.f1 = 0)).map seen
theorem backs_cons (x : S26) (l : List S26) : backsOf (x :: l) = if x.f1 = 0 then seen x :: backsOf l else backsOf l := by
  unfold backsOf
  by_cases h : x.f1 = 0
  · simp [h]
  · simp [h]
theorem backs_len (l : List S26) : (backsOf l).length ≤ l.length := by
  unfold backsOf
  rw [List.length_map]
  exact List.length_filter_le _ _

/-- A back of the rest covers it, or it has no point. -/
def hidB (x : S26) (r : List S26) : Bool := decide (emp (seen x)) || r.any fun y => decide (y.f1 = 0) && decide (ins (seen x) (seen y))
theorem hid_backs (x : S26) (l : List S26) : hidB x l = (decide (emp (seen x)) || (backsOf l).any fun q => decide (ins (seen x) q)) := by
  unfold hidB backsOf
  rw [List.any_map, List.any_filter]
  rfl
theorem q_seen {x : S26} (h : Q26 x) : Q24 (seen x) := by
  obtain ⟨_, _, h2, _, h4, _⟩ := h
  have h0 : I64 0 := by unfold I64; decide
  unfold seen meet
  split
  · exact ⟨h0, h0, h0, h0⟩
  · refine ⟨?_, ?_, ?_, ?_⟩
    · show I64 (mx _ _)
      rcases mx_or x.f2.f0 x.f4.f0 with ⟨e, _⟩ | ⟨e, _⟩ <;> rw [e]
      · exact h2.1
      · exact h4.1
    · show I64 (mx _ _)
      rcases mx_or x.f2.f1 x.f4.f1 with ⟨e, _⟩ | ⟨e, _⟩ <;> rw [e]
      · exact h2.2.1
      · exact h4.2.1
    · show I64 (mn _ _)
      rcases mn_or x.f2.f2 x.f4.f2 with ⟨e, _⟩ | ⟨e, _⟩ <;> rw [e]
      · exact h2.2.2.1
      · exact h4.2.2.1
    · show I64 (mn _ _)
      rcases mn_or x.f2.f3 x.f4.f3 with ⟨e, _⟩ | ⟨e, _⟩ <;> rw [e]
      · exact h2.2.2.2
      · exact h4.2.2.2
theorem hidl (s : S24) (l2 : List S26) : ∀ (l1 : List S26) (k : Nat), l2.length < k → (l1 ++ l2).length ≤ 4611686018427387904 →
    cull_Hidden.l0 k (l1 ++ l2) ((l1 ++ l2).length : Int) (l1.length : Int) s.f0 s.f1 s.f2 s.f3 = some (l2.any fun y => decide (y.f1 = 0) && decide (ins s (seen y))) := by
  induction l2 with
  | nil =>
    intro l1 k hk _
    obtain ⟨k, rfl⟩ : ∃ m, k = m + 1 := ⟨k - 1, by omega⟩
    simp only [cull_Hidden.l0]
    rw [if_neg (mid_ge _)]
    rfl
  | cons x l2 ih =>
    intro l1 k hk hn
    obtain ⟨k, rfl⟩ : ∃ m, k = m + 1 := ⟨k - 1, by omega⟩
    simp only [List.length_cons] at hk
    have nx := ih (l1 ++ [x]) k (by omega) (by rw [← mid_app]; exact hn)
    rw [← mid_app] at nx
    simp only [cull_Hidden.l0]
    rw [if_pos (mid_lt _ _ _), if_pos (by omega), if_pos (mid_lt _ _ _), rdi_mid, mid_next l1 x l2 hn, List.any_cons]
    by_cases hz : x.f1 = 0
    · rw [if_pos hz, seen_eq]
      simp only [Option.bind_some]
      rw [ins_eq]
      simp only [Option.bind_some]
      by_cases hi : ins s (seen x)
      · simp [hz, hi]
      · rw [decide_eq_false hi, if_neg (by decide), nx]
        simp
    · rw [if_neg hz, nx]
      simp [hz]
theorem hidden_eq (l1 : List S26) (x : S26) (l2 : List S26) (k : Nat) (hk : l2.length + 1 < k) (hn : (l1 ++ x :: l2).length ≤ 4611686018427387904) :
    cull_Hidden.f k (l1 ++ x :: l2) (l1.length : Int) = some (hidB x l2) := by
  obtain ⟨k, rfl⟩ : ∃ m, k = m + 1 := ⟨k - 1, by omega⟩
  unfold cull_Hidden.f
  have hge : ¬ ((l1.length : Int) ≥ ((l1 ++ x :: l2).length : Int)) := by have := mid_lt l1 x l2; omega
  rw [if_neg (by omega), decide_eq_false hge]
  simp only [cull_Hidden.j0]
  rw [if_neg (by decide), if_pos (by omega), if_pos (mid_lt _ _ _), rdi_mid, seen_eq]
  simp only [Option.bind_some]
  rw [empty_eq]
  simp only [Option.bind_some]
  unfold hidB
  by_cases he : emp (seen x)
  · simp [he]
  · rw [decide_eq_false he, if_neg (by decide), mid_next l1 x l2 hn, if_pos (by omega), if_pos (by simp; omega)]
    have hd : (l1 ++ x :: l2).drop (((l1 ++ [x]).length : Int)).toNat = l2 := by
      rw [Int.toNat_natCast, mid_app l1 x l2, List.drop_left]
    rw [hd, Bool.false_or]
    exact hidl (seen x) l2 [] k (by omega) (by simp at hn ⊢; omega)
theorem hidden_out (l : List S26) (n : Int) (k : Nat) (hk : 1 ≤ k) (h : n < 0 ∨ (l.length : Int) ≤ n) : cull_Hidden.f k l n = some false := by
  obtain ⟨k, rfl⟩ : ∃ m, k = m + 1 := ⟨k - 1, by omega⟩
  unfold cull_Hidden.f
  by_cases h0 : n < 0
  · rw [if_pos h0]
    simp [cull_Hidden.j0]
  · rw [if_neg h0, decide_eq_true (by omega)]
    simp [cull_Hidden.j0]
theorem culll (l2 : List S26) : ∀ (l1 acc : List S26) (k : Nat), l2.length + (l1 ++ l2).length + 2 < k → (l1 ++ l2).length ≤ 1000000 → acc.length + l2.length ≤ 1000000 →
    cull_Cull.l0 k (l1 ++ l2) acc (l1 ++ l2) ((l1 ++ l2).length : Int) (l1.length : Int) = some (acc ++ keepF hidB l2) := by
  induction l2 with
  | nil =>
    intro l1 acc k hk _ _
    obtain ⟨k, rfl⟩ : ∃ m, k = m + 1 := ⟨k - 1, by omega⟩
    simp only [cull_Cull.l0]
    rw [if_neg (mid_ge _)]
    simp [keepF]
  | cons x l2 ih =>
    intro l1 acc k hk hn ha
    obtain ⟨k, rfl⟩ : ∃ m, k = m + 1 := ⟨k - 1, by omega⟩
    simp only [List.length_cons] at ha
    have nx : ∀ acc' : List S26, acc'.length + l2.length ≤ 1000000 → cull_Cull.l0 k (l1 ++ x :: l2) acc' (l1 ++ x :: l2) ((l1 ++ x :: l2).length : Int) ((l1 ++ [x]).length : Int) = some (acc' ++ keepF hidB l2) := by
      intro acc' h'
      have := ih (l1 ++ [x]) acc' k (by simp at hk ⊢; omega) (by rw [← mid_app]; exact hn) h'
      rw [← mid_app] at this
      exact this
    simp only [cull_Cull.l0]
    rw [if_pos (mid_lt _ _ _), if_pos (by omega), if_pos (mid_lt _ _ _), hidden_eq l1 x l2 k (by simp at hk; omega) (by omega)]
    simp only [Option.bind_some]
    rw [rdi_mid, mid_next l1 x l2 (by omega)]
    unfold keepF
    by_cases hh : hidB x l2 = true
    · rw [if_pos hh, if_pos hh]
      exact nx acc (by omega)
    · rw [if_neg hh, if_neg hh, if_pos (by omega)]
      refine (nx (acc ++ [x]) (by simp; omega)).trans ?_
      simp
theorem cull_eq (l : List S26) (k : Nat) (hk : 2 * l.length + 2 < k) (hn : l.length ≤ 1000000) : cull_Cull.f k l = some (keepF hidB l) := by
  unfold cull_Cull.f
  exact culll l [] [] k (by simp; omega) hn (by simpa using hn)

theorem rseen_eq (i : S26) (k : Nat) (hk : 3 ≤ k) : decoupageref27_Seen.f k i.f0 i.f1 i.f2.f0 i.f2.f1 i.f2.f2 i.f2.f3 i.f3.f0 i.f3.f1 i.f3.f2 i.f3.f3 i.f4.f0 i.f4.f1 i.f4.f2 i.f4.f3 i.f5 = some ((seen i).f0, (seen i).f1, (seen i).f2, (seen i).f3) := by
  unfold decoupageref27_Seen.f seen
  rw [rmeet_eq _ _ k hk]
  rfl
theorem backsl (l2 : List S26) : ∀ (l1 : List S26) (acc : List S24) (k : Nat), l2.length + 3 < k → (l1 ++ l2).length ≤ 1000000 → acc.length + l2.length ≤ 1000000 →
    decoupageref27_backs.l0 k (l1 ++ l2) acc (l1.length : Int) = some (acc ++ backsOf l2) := by
  induction l2 with
  | nil =>
    intro l1 acc k hk _ _
    obtain ⟨k, rfl⟩ : ∃ m, k = m + 1 := ⟨k - 1, by omega⟩
    simp only [decoupageref27_backs.l0]
    rw [if_neg (mid_ge _)]
    simp [backsOf]
  | cons x l2 ih =>
    intro l1 acc k hk hn ha
    obtain ⟨k, rfl⟩ : ∃ m, k = m + 1 := ⟨k - 1, by omega⟩
    simp only [List.length_cons] at ha hk
    have nx : ∀ acc' : List S24, acc'.length + l2.length ≤ 1000000 → decoupageref27_backs.l0 k (l1 ++ x :: l2) acc' ((l1 ++ [x]).length : Int) = some (acc' ++ backsOf l2) := by
      intro acc' h'
      have := ih (l1 ++ [x]) acc' k (by omega) (by rw [← mid_app]; exact hn) h'
      rw [← mid_app] at this
      exact this
    simp only [decoupageref27_backs.l0]
    rw [if_pos (mid_lt _ _ _), if_pos (by omega), rdi_mid, mid_next l1 x l2 (by omega), backs_cons]
    by_cases hz : x.f1 = 0
    · rw [if_pos hz, if_pos hz, rseen_eq x k (by omega)]
      simp only [Option.bind_some]
      rw [if_pos (by omega)]
      refine (nx (acc ++ [seen x]) (by simp; omega)).trans ?_
      simp
    · rw [if_neg hz, if_neg hz]
      exact nx acc (by omega)
theorem rbacks_eq (l1 l2 : List S26) (k : Nat) (hk : l2.length + 3 < k) (hn : (l1 ++ l2).length ≤ 1000000) : decoupageref27_backs.f k (l1 ++ l2) (l1.length : Int) = some (backsOf l2) := by
  unfold decoupageref27_backs.f
  exact backsl l2 l1 [] k hk hn (by simp at hn ⊢; omega)

theorem rhidl (s : S24) (hs : Q24 s) (b2 : List S24) : ∀ (b1 : List S24) (k : Nat), b2.length < k → (b1 ++ b2).length ≤ 4611686018427387904 →
    decoupageref27_Hidden.l0 k (b1 ++ b2) ((b1 ++ b2).length : Int) (b1.length : Int) s.f0 s.f1 s.f2 s.f3 = some (b2.any fun q => decide (ins s q)) := by
  induction b2 with
  | nil =>
    intro b1 k hk _
    obtain ⟨k, rfl⟩ : ∃ m, k = m + 1 := ⟨k - 1, by omega⟩
    simp only [decoupageref27_Hidden.l0]
    rw [if_neg (mid_ge _)]
    rfl
  | cons x b2 ih =>
    intro b1 k hk hn
    obtain ⟨k, rfl⟩ : ∃ m, k = m + 1 := ⟨k - 1, by omega⟩
    simp only [List.length_cons] at hk
    have nx := ih (b1 ++ [x]) k (by omega) (by rw [← mid_app]; exact hn)
    rw [← mid_app] at nx
    simp only [decoupageref27_Hidden.l0]
    rw [if_pos (mid_lt _ _ _), if_pos (by omega), if_pos (mid_lt _ _ _), rd_mid, mid_next b1 x b2 hn, rins_eq s x hs, List.any_cons]
    simp only [Option.bind_some]
    by_cases hi : ins s x
    · simp [hi]
    · rw [decide_eq_false hi, if_neg (by decide), nx]
      simp
theorem rhidden_eq (l1 : List S26) (x : S26) (l2 : List S26) (hq : Q26 x) (k : Nat) (hk : l2.length + 3 < k) (hn : (l1 ++ x :: l2).length ≤ 1000000) :
    decoupageref27_Hidden.f k (l1 ++ x :: l2) (l1.length : Int) = some (hidB x l2) := by
  unfold decoupageref27_Hidden.f
  rw [if_pos (by omega), if_pos (mid_lt _ _ _), rdi_mid, rseen_eq x k (by omega)]
  simp only [Option.bind_some]
  rw [rempty_eq]
  simp only [Option.bind_some]
  rw [hid_backs]
  by_cases he : emp (seen x)
  · simp [he]
  · rw [decide_eq_false he, if_neg (by decide), mid_next l1 x l2 (by omega), mid_app l1 x l2, rbacks_eq (l1 ++ [x]) l2 k hk (by rw [← mid_app]; exact hn)]
    simp only [Option.bind_some]
    rw [Bool.false_or]
    exact rhidl (seen x) (q_seen hq) (backsOf l2) [] k (by have := backs_len l2; omega) (by have := backs_len l2; simp at hn ⊢; omega)

theorem rculll (l2 : List S26) : ∀ (l1 acc : List S26) (k : Nat), (∀ x ∈ l2, Q26 x) → l2.length + (l1 ++ l2).length + 4 < k → (l1 ++ l2).length ≤ 1000000 → acc.length + l2.length ≤ 1000000 →
    decoupageref27_Cull.l0 k (l1 ++ l2) acc ((l1 ++ l2).length : Int) (l1.length : Int) = some (acc ++ keepF hidB l2) := by
  induction l2 with
  | nil =>
    intro l1 acc k _ hk _ _
    obtain ⟨k, rfl⟩ : ∃ m, k = m + 1 := ⟨k - 1, by omega⟩
    simp only [decoupageref27_Cull.l0]
    rw [if_neg (mid_ge _)]
    simp [keepF]
  | cons x l2 ih =>
    intro l1 acc k hq hk hn ha
    obtain ⟨k, rfl⟩ : ∃ m, k = m + 1 := ⟨k - 1, by omega⟩
    simp only [List.length_cons] at ha
    have nx : ∀ acc' : List S26, acc'.length + l2.length ≤ 1000000 → decoupageref27_Cull.l0 k (l1 ++ x :: l2) acc' ((l1 ++ x :: l2).length : Int) ((l1 ++ [x]).length : Int) = some (acc' ++ keepF hidB l2) := by
      intro acc' h'
      have := ih (l1 ++ [x]) acc' k (fun y hy => hq y (List.mem_cons_of_mem _ hy)) (by simp at hk ⊢; omega) (by rw [← mid_app]; exact hn) h'
      rw [← mid_app] at this
      exact this
    simp only [decoupageref27_Cull.l0]
    rw [if_pos (mid_lt _ _ _), rhidden_eq l1 x l2 (hq x (by simp)) k (by simp at hk; omega) (by omega)]
    simp only [Option.bind_some]
    rw [rdi_mid, mid_next l1 x l2 (by omega)]
    unfold keepF
    by_cases hh : hidB x l2 = true
    · rw [if_pos hh, if_pos hh]
      exact nx acc (by omega)
    · rw [if_neg hh, if_neg hh, if_pos (by omega), if_pos (mid_lt _ _ _), if_pos (by omega)]
      refine (nx (acc ++ [x]) (by simp; omega)).trans ?_
      simp
theorem rcull_eq (l : List S26) (hq : ∀ x ∈ l, Q26 x) (k : Nat) (hk : 2 * l.length + 4 < k) (hn : l.length ≤ 1000000) : decoupageref27_Cull.f k l = some (keepF hidB l) := by
  unfold decoupageref27_Cull.f
  exact rculll l [] [] k hq (by simp; omega) hn (by simpa using hn)

theorem sameitl (l2 : List S26) : ∀ (l1 : List S26) (k : Nat), l2.length < k → (l1 ++ l2).length ≤ 4611686018427387904 → decoupageref25_Same.l0 k (l1 ++ l2) (l1 ++ l2) ((l1 ++ l2).length : Int) (l1.length : Int) = some true := by
  induction l2 with
  | nil =>
    intro l1 k hk _
    obtain ⟨k, rfl⟩ : ∃ m, k = m + 1 := ⟨k - 1, by omega⟩
    simp only [decoupageref25_Same.l0]
    rw [if_neg (mid_ge _)]
  | cons x l2 ih =>
    intro l1 k hk hn
    obtain ⟨k, rfl⟩ : ∃ m, k = m + 1 := ⟨k - 1, by omega⟩
    simp only [List.length_cons] at hk
    simp only [decoupageref25_Same.l0]
    rw [if_pos (mid_lt _ _ _), if_pos (by omega), if_pos (mid_lt _ _ _), if_pos (mid_lt _ _ _), rdi_mid, mid_next l1 x l2 hn]
    rw [mid_app l1 x l2] at hn ⊢
    simp only [beq_self_eq_true, Bool.not_true, Bool.or_self, Bool.false_eq_true, if_false]
    exact ih (l1 ++ [x]) k (by omega) hn
theorem sameit_refl (l : List S26) (k : Nat) (hk : l.length < k) (hn : l.length ≤ 4611686018427387904) : decoupageref25_Same.f k l l = some true := by
  unfold decoupageref25_Same.f
  rw [if_pos rfl]
  exact sameitl l [] k hk hn

theorem awake_ev : Ev (fun k => decoupagelaw27_awake.f k) true := Ev.of (k := 40) (fun k => decoupagelaw27_awake.mono k) (by decide +kernel)

theorem CullTells : ∀ (l0 : List S26) (a1 : Int), (∀ x ∈ l0, Q26 x) → I64 a1 → ∃ k, decoupagelaw27_CullTells.f k l0 a1 = some true := by
  intro l n hq _
  obtain ⟨KA, hA⟩ := awake_ev
  dsimp only at hA
  refine ⟨KA + 2 * l.length + 20, ?_⟩
  unfold decoupagelaw27_CullTells.f
  rw [hA _ (by omega)]
  simp only [Option.bind_some, if_true, decoupagelaw27_CullTells.j0]
  by_cases hl : (l.length : Int) > 60
  · rw [if_pos (by simpa using hl), hA _ (by omega)]
    rfl
  · rw [if_neg (by simpa using hl)]
    have fin : ∀ (k : Nat) (b : Bool), 2 * l.length + 8 < k → cull_Hidden.f (k - 1) l n = some b → decoupagelaw27_CullTells.j2 k l n b = some true := by
      intro k b hk hb
      obtain ⟨k, rfl⟩ : ∃ m, k = m + 1 := ⟨k - 1, by omega⟩
      simp only [decoupagelaw27_CullTells.j2]
      rw [cull_eq l k (by omega) (by omega), rcull_eq l hq k (by omega) (by omega)]
      simp only [Option.bind_some]
      have := keepF_len hidB l
      rw [sameit_refl _ k (by omega) (by omega)]
      simp only [Option.bind_some, if_true]
      rw [show k = k + 1 - 1 from rfl, hb]
      simp
    by_cases h0 : n ≥ 0
    · rw [if_pos h0]
      simp only [decoupagelaw27_CullTells.j1]
      by_cases h1 : n < (l.length : Int)
      · rw [if_pos (by simpa using h1)]
        obtain ⟨m, rfl⟩ := Int.eq_ofNat_of_zero_le h0
        have hm : m < l.length := by omega
        obtain ⟨l1, x, l2, e, e1⟩ : ∃ l1 x l2, l = l1 ++ x :: l2 ∧ l1.length = m := by
          refine ⟨l.take m, l[m], l.drop (m + 1), ?_, by simp; omega⟩
          rw [List.getElem_cons_drop, List.take_append_drop]
        have hx : Q26 x := hq x (by rw [e]; simp)
        have e2 := rhidden_eq l1 x l2 hx (KA + 2 * l.length + 18) (by rw [e]; simp; omega) (by rw [← e]; omega)
        rw [← e, e1] at e2
        rw [e2]
        simp only [Option.bind_some]
        refine fin _ _ (by omega) ?_
        have e3 := hidden_eq l1 x l2 (KA + 2 * l.length + 17) (by rw [e]; simp; omega) (by rw [← e]; omega)
        rw [← e, e1] at e3
        exact e3
      · rw [if_neg (by simpa using h1)]
        exact fin _ _ (by omega) (hidden_out l n _ (by omega) (by omega))
    · rw [if_neg h0]
      simp only [decoupagelaw27_CullTells.j1]
      rw [if_neg (by decide)]
      exact fin _ _ (by omega) (hidden_out l n _ (by omega) (by omega))

end Go.Proofs.Ytipcledgblodjaa.Pure
