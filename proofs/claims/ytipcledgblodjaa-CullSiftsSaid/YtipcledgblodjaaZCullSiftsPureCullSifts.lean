/- What is proved: Sift gives the specified items. Conditions: none. -/
import Derived.Test.YtipcledgblodjaaZCullSiftsMCullSifts
import Derived.Test.YtipcledgblodjaaZCullSiftsOpens
namespace Go.Proofs.Ytipcledgblodjaa.Pure
open Go.RowKit Go.Proofs.Ytipcledgblodjaa.PCullSifts Go.Proofs.YtipcledgblodjaaW.PrintWords Go.Proofs.YtipcledgblodjaaW.PrintLast
set_option linter.unusedSimpArgs false
set_option linter.unusedVariables false
open Go.Proofs.Ytipcledgblodjaa.Opens

/-! ### A rectangle's points, in plain words -/
/-- No point is in it. -/
def emp (r : S24) : Prop := r.f0 ≥ r.f2 ∨ r.f1 ≥ r.f3
instance (r : S24) : Decidable (emp r) := by unfold emp; exact inferInstance
/-- A point is in it. -/
def has (r : S24) (x y : Int) : Prop := r.f0 ≤ x ∧ x < r.f2 ∧ r.f1 ≤ y ∧ y < r.f3
instance (r : S24) (x y : Int) : Decidable (has r x y) := by unfold has; exact inferInstance

theorem empty_eq (r : S24) : rect_Empty.f r.f0 r.f1 r.f2 r.f3 = some (decide (emp r)) := by
 unfold rect_Empty.f emp
 by_cases h : r.f0 ≥ r.f2
 ·rw [if_pos h]; simp [h]
 ·rw [if_neg h]; simp [h]

theorem rholds_eq (r : S24) (x y : Int) : decoupageref02_Holds.f r.f0 r.f1 r.f2 r.f3 x y = some (decide (has r x y)) := by
 unfold decoupageref02_Holds.f has
 by_cases h1 : r.f0 ≤ x
 ·by_cases h2 : x < r.f2
  ·by_cases h3 : r.f1 ≤ y
   ·rw [if_pos h1, if_pos h2, if_pos h3]; simp [h1, h2, h3]
   ·rw [if_pos h1, if_pos h2, if_neg h3]; simp [h3]
  ·rw [if_pos h1, if_neg h2]; simp [h2]
 ·rw [if_neg h1]; simp [h1]

theorem rempty_eq (r : S24) : decoupageref02_Empty.f r.f0 r.f1 r.f2 r.f3 = some (decide (emp r)) := by
 unfold decoupageref02_Empty.f
 rw [rholds_eq]
 simp only [Option.bind_some]
 by_cases h : emp r
 ·have h1 : ¬ has r r.f0 r.f1 := by unfold emp at h; unfold has; omega
  simp [h, h1]
 ·have h1 : has r r.f0 r.f1 := by unfold emp at h; unfold has; omega
  simp [h, h1]

/-- What two have in common. -/
def meet (a b : S24) : S24 :=
 if emp ⟨mx a.f0 b.f0, mx a.f1 b.f1, mn a.f2 b.f2, mn a.f3 b.f3⟩ then ⟨0, 0, 0, 0⟩ else ⟨mx a.f0 b.f0, mx a.f1 b.f1, mn a.f2 b.f2, mn a.f3 b.f3⟩
theorem meet_eq (a b : S24) : rect_Meet.f a.f0 a.f1 a.f2 a.f3 b.f0 b.f1 b.f2 b.f3 = some ((meet a b).f0, (meet a b).f1, (meet a b).f2, (meet a b).f3) := by
 unfold rect_Meet.f meet
 have h := empty_eq ⟨mx a.f0 b.f0, mx a.f1 b.f1, mn a.f2 b.f2, mn a.f3 b.f3⟩
 rw [h]
 simp only [Option.bind_some]
 by_cases h1 : emp ⟨mx a.f0 b.f0, mx a.f1 b.f1, mn a.f2 b.f2, mn a.f3 b.f3⟩
 ·simp [h1]
 ·simp [h1]
theorem mx_le {a b c : Int} : mx a b ≤ c ↔ a ≤ c ∧ b ≤ c := by unfold mx; split <;> omega
theorem lt_mn {a b c : Int} : c < mn a b ↔ c < a ∧ c < b := by unfold mn; split <;> omega
theorem mx_or (a b : Int) : mx a b = a ∧ b ≤ a ∨ mx a b = b ∧ a ≤ b := by unfold mx; split <;> omega
theorem mn_or (a b : Int) : mn a b = a ∧ a ≤ b ∨ mn a b = b ∧ b ≤ a := by unfold mn; split <;> omega
theorem has_meet (a b : S24) (x y : Int) : has (meet a b) x y ↔ has a x y ∧ has b x y := by
 unfold meet
 have e0 := mx_or a.f0 b.f0; have e1 := mx_or a.f1 b.f1; have e2 := mn_or a.f2 b.f2; have e3 := mn_or a.f3 b.f3
 split
 ·rename_i h; unfold emp at h; unfold has; simp only at h ⊢; omega
 ·rename_i h; unfold emp at h; unfold has; simp only at h ⊢; omega

/-- Its numbers are whole numbers of their kinds. -/
def Q24 (x : S24) : Prop := I64 x.f0 ∧ I64 x.f1 ∧ I64 x.f2 ∧ I64 x.f3

/-! ### A loop over a list, place by place -/
theorem w64 {n : Int} (h1 : -9223372036854775808 ≤ n) (h2 : n ≤ 9223372036854775807) : wrap64 n = n := by unfold wrap64; omega
theorem mid_lt {α : Type} (l1 : List α) (x : α) (l2 : List α) : ((l1.length : Int) < ((l1 ++ x :: l2).length : Int)) := by simp; omega
theorem mid_ge {α : Type} (l1 : List α) : ¬ ((l1.length : Int) < ((l1 ++ []).length : Int)) := by simp
theorem mid_next {α : Type} (l1 : List α) (x : α) (l2 : List α) (h : (l1 ++ x :: l2).length ≤ 4611686018427387904) : wrap64 ((l1.length : Int) + 1) = ((l1 ++ [x]).length : Int) := by
 simp at h ⊢
 rw [w64 (by omega) (by omega)]
theorem mid_app {α : Type} (l1 : List α) (x : α) (l2 : List α) : l1 ++ x :: l2 = (l1 ++ [x]) ++ l2 := by simp

theorem rd_mid (l1 : List S24) (x : S24) (l2 : List S24) : rd_T24 (l1 ++ x :: l2) (l1.length : Int) = x := by
 unfold rd_T24
 simp

/-! ### What is left of one without another one -/
/-- A rectangle has points. -/
def ne (r : S24) : Bool := !decide (emp r)
theorem ne_eq (r : S24) : ne r = decide (r.f0 < r.f2 ∧ r.f1 < r.f3) := by
 unfold ne
 by_cases h : emp r
 ·have h2 : ¬ (r.f0 < r.f2 ∧ r.f1 < r.f3) := by unfold emp at h; omega
  rw [decide_eq_true h, decide_eq_false h2]; rfl
 ·have h2 : r.f0 < r.f2 ∧ r.f1 < r.f3 := by unfold emp at h; omega
  rw [decide_eq_false h, decide_eq_true h2]; rfl
/-- What is cut out. -/
def cm (a b : S24) : S24 := if emp (meet a b) then ⟨a.f0, a.f3, a.f2, a.f3⟩ else meet a b
/-- The four pieces around what is cut out of a. -/
def pcs (a m : S24) : List S24 := [⟨a.f0, a.f1, a.f2, m.f1⟩, ⟨a.f0, m.f3, a.f2, a.f3⟩, ⟨a.f0, m.f1, m.f0, m.f3⟩, ⟨m.f2, m.f1, a.f2, m.f3⟩]
/-- What is left of a without b. -/
def cut (a b : S24) : List S24 := (pcs a (cm a b)).filter ne
theorem cutl (l2 : List S24) : ∀ (l1 acc : List S24) (k : Nat), l2.length < k → acc.length + l2.length < 4398046511104 → (l1 ++ l2).length ≤ 4611686018427387904 →
  rect_Cut.l0 k acc (l1 ++ l2) ((l1 ++ l2).length : Int) (l1.length : Int) = some (acc ++ l2.filter ne) := by
 induction l2 with
 | nil =>
  intro l1 acc k hk _ _
  obtain ⟨k, rfl⟩ : ∃ m, k = m + 1 := ⟨k - 1, by omega⟩
  simp only [rect_Cut.l0]
  rw [if_neg (mid_ge _)]
  simp
 | cons x l2 ih =>
  intro l1 acc k hk ha hn
  obtain ⟨k, rfl⟩ : ∃ m, k = m + 1 := ⟨k - 1, by omega⟩
  simp only [List.length_cons] at hk ha
  simp only [rect_Cut.l0]
  rw [if_pos (mid_lt _ _ _), if_pos (by omega), if_pos (mid_lt _ _ _), rd_mid, empty_eq, mid_next l1 x l2 hn]
  simp only [Option.bind_some]
  rw [mid_app] at hn ⊢
  by_cases he : emp x
  ·rw [if_pos (by simpa using he), ih (l1 ++ [x]) acc k (by omega) (by omega) hn]
   simp [ne, he]
  ·rw [if_neg (by simpa using he), if_pos (by omega), ih (l1 ++ [x]) (acc ++ [x]) k (by omega) (by simp; omega) hn]
   simp [ne, he]
theorem cut_eq (a b : S24) (k : Nat) (hk : 6 ≤ k) : rect_Cut.f k a.f0 a.f1 a.f2 a.f3 b.f0 b.f1 b.f2 b.f3 = some (cut a b) := by
 obtain ⟨k, rfl⟩ : ∃ m, k = m + 1 := ⟨k - 1, by omega⟩
 have hj : ∀ m : S24, rect_Cut.j0 (k + 1) a.f0 a.f1 a.f2 a.f3 m.f0 m.f1 m.f2 m.f3 = some ((pcs a m).filter ne) := fun m => by
  simp only [rect_Cut.j0, Option.bind_some]
  have := cutl (pcs a m) [] [] k (by simp [pcs]; omega) (by simp [pcs]) (by simp [pcs])
  simpa [pcs] using this
 unfold rect_Cut.f
 rw [meet_eq]
 simp only [Option.bind_some]
 rw [empty_eq (meet a b)]
 simp only [Option.bind_some]
 unfold cut cm
 by_cases h : emp (meet a b)
 ·rw [if_pos (by simpa using h), if_pos h]
  exact hj ⟨a.f0, a.f3, a.f2, a.f3⟩
 ·rw [if_neg (by simpa using h), if_neg h]
  exact hj (meet a b)
/-- In how many of some a point is. -/
def cnt (l : List S24) (x y : Int) : Nat := l.countP fun r => decide (has r x y)
theorem cnt_filter (l : List S24) (x y : Int) : cnt (l.filter ne) x y = cnt l x y := by
 unfold cnt
 rw [List.countP_filter]
 apply List.countP_congr
 intro r _
 have : has r x y → ¬ emp r := by unfold has emp; omega
 simp only [Bool.and_eq_true, decide_eq_true_eq, ne, Bool.not_eq_true', decide_eq_false_iff_not]
 exact ⟨fun h => h.1, fun h => ⟨h, this h⟩⟩
theorem cm_cases (a b : S24) : (cm a b = ⟨a.f0, a.f3, a.f2, a.f3⟩ ∧ ∀ x y, has a x y → ¬ has b x y) ∨
  (a.f0 ≤ (cm a b).f0 ∧ (cm a b).f0 < (cm a b).f2 ∧ (cm a b).f2 ≤ a.f2 ∧ a.f1 ≤ (cm a b).f1 ∧ (cm a b).f1 < (cm a b).f3 ∧ (cm a b).f3 ≤ a.f3 ∧ ∀ x y, has (cm a b) x y ↔ has a x y ∧ has b x y) := by
 unfold cm
 by_cases h : emp (meet a b)
 ·rw [if_pos h]
  left
  refine ⟨rfl, fun x y h1 h2 => ?_⟩
  have h3 := (has_meet a b x y).2 ⟨h1, h2⟩
  unfold has at h3
  unfold emp at h
  omega
 ·rw [if_neg h]
  right
  have hm := has_meet a b
  unfold emp at h
  have e0 := mx_or a.f0 b.f0; have e1 := mx_or a.f1 b.f1; have e2 := mn_or a.f2 b.f2; have e3 := mn_or a.f3 b.f3
  refine ⟨?_, by omega, ?_, ?_, by omega, ?_, hm⟩
  all_goals
   revert h
   unfold meet
   split
   ·simp
   ·simp only; omega
theorem cnt_pcs (a m : S24) (x y : Int) : cnt (pcs a m) x y =
  (if has ⟨a.f0, a.f1, a.f2, m.f1⟩ x y then 1 else 0) + (if has ⟨a.f0, m.f3, a.f2, a.f3⟩ x y then 1 else 0) +
  (if has ⟨a.f0, m.f1, m.f0, m.f3⟩ x y then 1 else 0) + (if has ⟨m.f2, m.f1, a.f2, m.f3⟩ x y then 1 else 0) := by
 unfold cnt pcs
 simp only [List.countP_cons, List.countP_nil, decide_eq_true_eq]
 omega
theorem cnt_cut (a b : S24) (x y : Int) : cnt (cut a b) x y = if has a x y ∧ ¬ has b x y then 1 else 0 := by
 unfold cut
 rw [cnt_filter, cnt_pcs]
 rcases cm_cases a b with ⟨e, h⟩ | ⟨h0, h1, h2, h3, h4, h5, h6⟩
 ·rw [e]
  have h' := h x y
  by_cases hb : has b x y
  ·have ha : ¬ has a x y := fun ha => h' ha hb
   simp only [ha, false_and, if_false]
   (repeat' split) <;> simp only [has] at * <;> omega
  ·simp only [hb, not_false_eq_true, and_true]
   clear h h' hb e
   (repeat' split) <;> simp only [has] at * <;> omega
 ·have h' := h6 x y
  clear h6
  by_cases ha : has a x y
  ·by_cases hb : has b x y
   ·have hm := h'.2 ⟨ha, hb⟩
    simp only [hb, not_true, and_false, if_false]
    clear h' ha hb
    (repeat' split) <;> simp only [has] at * <;> omega
   ·have hm : ¬ has (cm a b) x y := fun hm => hb (h'.1 hm).2
    simp only [ha, hb, not_false_eq_true, and_true, if_true]
    clear h' hb
    (repeat' split) <;> simp only [has] at * <;> omega
  ·simp only [ha, false_and, if_false]
   clear h'
   (repeat' split) <;> simp only [has] at * <;> omega

/-! ### What is left of one without others -/
/-- A point is in one of some. -/
def inl (l : List S24) (x y : Int) : Prop := ∃ q ∈ l, has q x y
theorem inl_nil (x y : Int) : ¬ inl [] x y := by rintro ⟨q, h, _⟩; simp at h
theorem inl_cons (q : S24) (l : List S24) (x y : Int) : inl (q :: l) x y ↔ has q x y ∨ inl l x y := by
 unfold inl; simp
theorem inl_app (l m : List S24) (x y : Int) : inl (l ++ m) x y ↔ inl l x y ∨ inl m x y := by
 unfold inl
 constructor
 ·rintro ⟨q, h, h2⟩
  rcases List.mem_append.1 h with h | h
  ·exact .inl ⟨q, h, h2⟩
  ·exact .inr ⟨q, h, h2⟩
 ·rintro (⟨q, h, h2⟩ | ⟨q, h, h2⟩)
  ·exact ⟨q, List.mem_append_left _ h, h2⟩
  ·exact ⟨q, List.mem_append_right _ h, h2⟩
instance (l : List S24) (x y : Int) : Decidable (inl l x y) := by unfold inl; exact inferInstance
theorem inl_cnt (l : List S24) (x y : Int) : inl l x y ↔ 1 ≤ cnt l x y := by
 unfold inl cnt
 rw [Nat.succ_le_iff, List.countP_pos_iff]
 simp
theorem cnt_app (l m : List S24) (x y : Int) : cnt (l ++ m) x y = cnt l x y + cnt m x y := List.countP_append
theorem cnt_cons (q : S24) (l : List S24) (x y : Int) : cnt (q :: l) x y = cnt l x y + if has q x y then 1 else 0 := by
 unfold cnt; rw [List.countP_cons]; simp
/-- All of some without one. -/
def cuts (left : List S24) (q : S24) : List S24 := left.flatMap fun y => cut y q
theorem cnt_cuts (left : List S24) (q : S24) (x y : Int) : cnt (cuts left q) x y = if has q x y then 0 else cnt left x y := by
 unfold cuts
 induction left with
 | nil => simp [cnt]
 | cons a left ih =>
  rw [List.flatMap_cons, cnt_app, ih, cnt_cut, cnt_cons]
  by_cases h1 : has q x y <;> by_cases h2 : has a x y <;> simp [h1, h2] <;> omega
/-- What is left of one, others cut off one behind the other. -/
def rest (r : S24) (l : List S24) : List S24 := l.foldl cuts (if emp r then [] else [r])
theorem rest_nil (r : S24) : rest r [] = if emp r then [] else [r] := rfl
theorem rest_snoc (r : S24) (l : List S24) (q : S24) : rest r (l ++ [q]) = cuts (rest r l) q := by
 unfold rest; rw [List.foldl_append]; rfl
theorem cnt_fold (l : List S24) (x y : Int) : ∀ left, cnt (l.foldl cuts left) x y = if inl l x y then 0 else cnt left x y := by
 induction l with
 | nil => intro left; simp [inl_nil]
 | cons q l ih =>
  intro left
  rw [List.foldl_cons, ih, cnt_cuts]
  by_cases h1 : has q x y <;> by_cases h2 : inl l x y <;> simp [h1, h2, inl_cons]
theorem cnt_rest (r : S24) (l : List S24) (x y : Int) : cnt (rest r l) x y = if has r x y ∧ ¬ inl l x y then 1 else 0 := by
 unfold rest
 rw [cnt_fold]
 by_cases h0 : emp r
 ·have h1 : ¬ has r x y := by unfold emp at h0; unfold has; omega
  simp [h0, h1, cnt]
 ·by_cases h1 : has r x y <;> by_cases h2 : inl l x y <;> simp [h0, h1, h2, cnt]
theorem ne_cut (a b : S24) : ∀ q ∈ cut a b, ¬ emp q := by
 intro q hq
 unfold cut at hq
 have := (List.mem_filter.1 hq).2
 simpa [ne] using this
theorem ne_fold (l : List S24) : ∀ left : List S24, (∀ q ∈ left, ¬ emp q) → ∀ q ∈ l.foldl cuts left, ¬ emp q := by
 induction l with
 | nil => intro left h; exact h
 | cons b l ih =>
  intro left h
  rw [List.foldl_cons]
  refine ih _ fun q hq => ?_
  unfold cuts at hq
  obtain ⟨a, _, ha⟩ := List.mem_flatMap.1 hq
  exact ne_cut a b q ha
theorem ne_rest (r : S24) (l : List S24) : ∀ q ∈ rest r l, ¬ emp q := by
 refine ne_fold l _ fun q hq => ?_
 by_cases h : emp r
 ·simp [h] at hq
 ·simp [h] at hq; subst hq; exact h
theorem has_corner {q : S24} (h : ¬ emp q) : has q q.f0 q.f1 := by unfold emp at h; unfold has; omega
/-- Nothing is left just where all is in the others. -/
theorem rest_nil_iff (r : S24) (l : List S24) : rest r l = [] ↔ ∀ x y, has r x y → inl l x y := by
 constructor
 ·intro h x y hr
  have := cnt_rest r l x y
  rw [h] at this
  by_cases hi : inl l x y
  ·exact hi
  ·simp [hr, hi, cnt] at this
 ·intro h
  cases hl : rest r l with
  | nil => rfl
  | cons q m =>
   have hq := ne_rest r l q (by rw [hl]; simp)
   have h1 := cnt_rest r l q.f0 q.f1
   rw [hl, cnt_cons, if_pos (has_corner hq)] at h1
   split at h1
   ·rename_i h2; exact absurd (h _ _ h2.1) h2.2
   ·omega
theorem cuts_len (left : List S24) (q : S24) : (cuts left q).length ≤ 4 * left.length := by
 unfold cuts
 induction left with
 | nil => simp
 | cons a left ih =>
  rw [List.flatMap_cons, List.length_append, List.length_cons]
  have : (cut a q).length ≤ 4 := List.length_filter_le ne (pcs a (cm a q))
  omega
theorem rest_len (r : S24) (l : List S24) : (rest r l).length ≤ 4 ^ l.length := by
 unfold rest
 have key : ∀ (l left : List S24), (l.foldl cuts left).length ≤ 4 ^ l.length * left.length := by
  intro l
  induction l with
  | nil => intro left; simp
  | cons q l ih =>
   intro left
   rw [List.foldl_cons, List.length_cons, Nat.pow_succ, Nat.mul_assoc]
   exact Nat.le_trans (ih _) (Nat.mul_le_mul_left _ (cuts_len left q))
 have h := key l (if emp r then [] else [r])
 split at h
 ·simp at h ⊢; rename_i h0; simp [h0, h]
 ·rename_i h0; simpa [h0] using h

theorem rmeet_eq (a b : S24) (k : Nat) (hk : 3 ≤ k) : decoupageref02_Meet.f k a.f0 a.f1 a.f2 a.f3 b.f0 b.f1 b.f2 b.f3 = some ((meet a b).f0, (meet a b).f1, (meet a b).f2, (meet a b).f3) := by
 obtain ⟨k, rfl⟩ : ∃ m, k = m + 3 := ⟨k - 3, by omega⟩
 have hE : ∀ p q r s : Int, decoupageref02_Empty.f p q r s = some (decide (emp ⟨p, q, r, s⟩)) := fun p q r s => rempty_eq ⟨p, q, r, s⟩
 unfold decoupageref02_Meet.f meet
 simp only [decoupageref02_Meet.j0, decoupageref02_Meet.j1, decoupageref02_Meet.j2, hE, Option.bind_some, mx, mn]
 simp only [gt_iff_lt]
 by_cases h0 : a.f0 < b.f0 <;> by_cases h1 : a.f1 < b.f1 <;> by_cases h2 : b.f2 < a.f2 <;> by_cases h3 : b.f3 < a.f3 <;>
  simp only [h0, h1, h2, h3, if_true, if_false] <;> split <;> simp_all

/-! ### Rest of the program -/
theorem restl1 (q : S24) (L : List S24) (n i : Int) (r : List S24) (l2 : List S24) : ∀ (l1 acc : List S24), (l1 ++ l2).length ≤ 4611686018427387904 → acc.length + (cuts l2 q).length < 4398046511104 →
  Ev (fun k => cover_Rest.l0 k (acc ++ cuts l2 q) L n (wrap64 (i + 1))) r → Ev (fun k => cover_Rest.l1 k acc L n i (l1 ++ l2) ((l1 ++ l2).length : Int) (l1.length : Int) q.f0 q.f1 q.f2 q.f3) r := by
 induction l2 with
 | nil =>
  rintro l1 acc hn hb ⟨K, hK⟩
  refine ⟨K + 1, fun k hk => ?_⟩
  obtain ⟨k, rfl⟩ : ∃ m, k = m + 1 := ⟨k - 1, by omega⟩
  simp only [cover_Rest.l1]
  rw [if_neg (mid_ge _)]
  have := hK k (by omega)
  simpa [cuts] using this
 | cons a l2 ih =>
  intro l1 acc hn hb hE
  have hb2 : acc.length + ((cut a q).length + (cuts l2 q).length) < 4398046511104 := by
   unfold cuts at hb ⊢
   rw [List.flatMap_cons, List.length_append] at hb
   exact hb
  obtain ⟨K, hK⟩ := ih (l1 ++ [a]) (acc ++ cut a q) (by rw [← mid_app]; exact hn) (by rw [List.length_append]; omega) (by
   have e : acc ++ cut a q ++ cuts l2 q = acc ++ cuts (a :: l2) q := by unfold cuts; rw [List.flatMap_cons, List.append_assoc]
   rw [e]; exact hE)
  refine ⟨K + 7, fun k hk => ?_⟩
  obtain ⟨k, rfl⟩ : ∃ m, k = m + 1 := ⟨k - 1, by omega⟩
  simp only [cover_Rest.l1]
  rw [if_pos (mid_lt _ _ _), if_pos (by omega), if_pos (mid_lt _ _ _), rd_mid, mid_next l1 a l2 hn, cut_eq a q k (by omega)]
  simp only [Option.bind_some]
  rw [if_pos (by omega), mid_app]
  exact hK k (by omega)
theorem restl0 (l2 : List S24) : ∀ (l1 left : List S24), (l1 ++ l2).length ≤ 4611686018427387904 → (∀ i, i ≤ l2.length → ((l2.take i).foldl cuts left).length < 4398046511104) →
  Ev (fun k => cover_Rest.l0 k left (l1 ++ l2) ((l1 ++ l2).length : Int) (l1.length : Int)) (l2.foldl cuts left) := by
 induction l2 with
 | nil =>
  intro l1 left hn _
  refine ⟨1, fun k hk => ?_⟩
  obtain ⟨k, rfl⟩ : ∃ m, k = m + 1 := ⟨k - 1, by omega⟩
  simp only [cover_Rest.l0]
  rw [if_neg (mid_ge _)]
  rfl
 | cons q l2 ih =>
  intro l1 left hn hb
  have hn2 : ((l1 ++ [q]) ++ l2).length ≤ 4611686018427387904 := by rw [← mid_app]; exact hn
  have ih2 := ih (l1 ++ [q]) (cuts left q) hn2 (fun i hi => by
   have := hb (i + 1) (by simp; omega)
   simpa using this)
  have h0 := hb 0 (by simp)
  have h1 := hb 1 (by simp)
  simp only [List.take_zero, List.foldl_nil] at h0
  simp only [List.take_succ_cons, List.take_zero, List.foldl_cons, List.foldl_nil] at h1
  obtain ⟨K, hK⟩ := restl1 q (l1 ++ q :: l2) ((l1 ++ q :: l2).length : Int) (l1.length : Int) (l2.foldl cuts (cuts left q)) left [] [] (by simp; omega) (by simpa using h1) (by
   rw [mid_next l1 q l2 hn, List.nil_append, mid_app]
   exact ih2)
  refine ⟨K + 1, fun k hk => ?_⟩
  obtain ⟨k, rfl⟩ : ∃ m, k = m + 1 := ⟨k - 1, by omega⟩
  simp only [cover_Rest.l0]
  rw [if_pos (mid_lt _ _ _), if_pos (by omega), if_pos (mid_lt _ _ _), rd_mid]
  exact hK k (by omega)
theorem rest_eq (r : S24) (l : List S24) (hn : l.length ≤ 4611686018427387904) (hb : ∀ i, i ≤ l.length → (rest r (l.take i)).length < 4398046511104) :
  Ev (fun k => cover_Rest.f k r.f0 r.f1 r.f2 r.f3 l) (rest r l) := by
 obtain ⟨K, hK⟩ := restl0 l [] (if emp r then [] else [r]) (by simpa using hn) hb
 refine ⟨K + 1, fun k hk => ?_⟩
 obtain ⟨k, rfl⟩ : ∃ m, k = m + 1 := ⟨k - 1, by omega⟩
 have := hK k (by omega)
 unfold cover_Rest.f
 rw [empty_eq]
 simp only [Option.bind_some, cover_Rest.j0]
 by_cases h : emp r
 ·rw [if_pos (by simpa using h)]
  rw [if_pos h] at this
  rw [rest, if_pos h]
  exact this
 ·rw [if_neg (by simpa using h), if_pos (by simp)]
  rw [if_neg h] at this
  rw [rest, if_neg h]
  exact this
theorem rest_bound8 (r : S24) (l : List S24) (h : l.length ≤ 8) : ∀ i, i ≤ l.length → (rest r (l.take i)).length < 4398046511104 := by
 intro i hi
 have h1 := rest_len r (l.take i)
 have h2 : (l.take i).length ≤ 8 := by rw [List.length_take]; omega
 have h3 : 4 ^ (l.take i).length ≤ 4 ^ 8 := Nat.pow_le_pow_right (by decide) h2
 have h4 : (4 : Nat) ^ 8 = 65536 := by decide
 omega

theorem inn (x y : Int) (l2 : List S24) : ∀ (l1 : List S24) (k : Nat), l2.length < k → (l1 ++ l2).length ≤ 4611686018427387904 →
  decoupageref03_In.l0 k (l1 ++ l2) x y ((l1 ++ l2).length : Int) (l1.length : Int) = some (decide (inl l2 x y)) := by
 induction l2 with
 | nil =>
  intro l1 k hk _
  obtain ⟨k, rfl⟩ : ∃ m, k = m + 1 := ⟨k - 1, by omega⟩
  simp only [decoupageref03_In.l0]
  rw [if_neg (mid_ge _)]
  simp [inl_nil]
 | cons q l2 ih =>
  intro l1 k hk hn
  obtain ⟨k, rfl⟩ : ∃ m, k = m + 1 := ⟨k - 1, by omega⟩
  simp only [List.length_cons] at hk
  simp only [decoupageref03_In.l0]
  rw [if_pos (mid_lt _ _ _), if_pos (by omega), if_pos (mid_lt _ _ _), rd_mid, mid_next l1 q l2 hn, rholds_eq]
  simp only [Option.bind_some]
  rw [mid_app] at hn ⊢
  by_cases h : has q x y
  ·simp [h, inl_cons]
  ·rw [if_neg (by simpa using h), ih (l1 ++ [q]) k (by omega) hn]
   simp [h, inl_cons]
theorem in_eq (l : List S24) (x y : Int) (k : Nat) (hk : l.length < k) (hn : l.length ≤ 4611686018427387904) : decoupageref03_In.f k l x y = some (decide (inl l x y)) := by
 unfold decoupageref03_In.f
 exact inn x y l [] k hk hn

/-! ### The document's Covered: the points at which something may change -/
/-- All ends of some. -/
def xs (l : List S24) : List Int := l.flatMap fun q => [q.f0, q.f2]
def ys (l : List S24) : List Int := l.flatMap fun q => [q.f1, q.f3]
/-- The places within. -/
def plc (a b : Int) (l : List Int) : List Int := a :: l.filter fun n => decide (a < n ∧ n < b)
theorem rd_mid_i (l1 : List Int) (x : Int) (l2 : List Int) : rd (l1 ++ x :: l2) (l1.length : Int) = x := by unfold rd; simp
theorem plcl (a b : Int) (l2 : List Int) : ∀ (l1 acc : List Int) (k : Nat), l2.length < k → (l1 ++ l2).length ≤ 4611686018427387904 → acc.length + l2.length < 17592186044416 →
  decoupageref03_places.l0 k a b (l1 ++ l2) acc ((l1 ++ l2).length : Int) (l1.length : Int) = some (acc ++ l2.filter fun n => decide (a < n ∧ n < b)) := by
 induction l2 with
 | nil =>
  intro l1 acc k hk _ _
  obtain ⟨k, rfl⟩ : ∃ m, k = m + 1 := ⟨k - 1, by omega⟩
  simp only [decoupageref03_places.l0]
  rw [if_neg (mid_ge _)]
  simp
 | cons n l2 ih =>
  intro l1 acc k hk hn hb
  obtain ⟨k, rfl⟩ : ∃ m, k = m + 1 := ⟨k - 1, by omega⟩
  simp only [List.length_cons] at hk hb
  simp only [decoupageref03_places.l0]
  rw [if_pos (mid_lt _ _ _), if_pos (by omega), if_pos (mid_lt _ _ _), rd_mid_i, mid_next l1 n l2 hn]
  rw [mid_app] at hn ⊢
  by_cases h1 : n > a
  ·by_cases h2 : n < b
   ·rw [if_pos h1, if_pos h2, if_pos (by omega), ih (l1 ++ [n]) (acc ++ [n]) k (by omega) hn (by simp; omega)]
    simp [h1, h2, List.filter_cons, show a < n from h1]
   ·rw [if_pos h1, if_neg h2, ih (l1 ++ [n]) acc k (by omega) hn (by omega)]
    simp [h2, List.filter_cons]
  ·rw [if_neg h1, ih (l1 ++ [n]) acc k (by omega) hn (by omega)]
   simp [List.filter_cons, show ¬ a < n from h1]
theorem plc_eq (a b : Int) (l : List Int) (k : Nat) (hk : l.length < k) (hn : l.length ≤ 1000000) : decoupageref03_places.f k a b l = some (plc a b l) := by
 unfold decoupageref03_places.f
 have := plcl a b l [] [a] k hk (by simp; omega) (by simp; omega)
 simpa [plc] using this
/-- Each point at which something may change is in one of them. -/
def gridB (l : List S24) (px py : List Int) : Bool := px.all fun x => py.all fun y => decide (inl l x y)
theorem covl2 (l : List S24) (px py : List Int) (i0 : Int) (hl : l.length ≤ 1000000) (r : Bool) (x : Int) (n0 : Int) (h0 : 0 ≤ i0) (h1 : i0 < (px.length : Int)) (hx : rd px i0 = x) (p2 : List Int) : ∀ (p1 : List Int), p1 ++ p2 = py → py.length ≤ 1000000 →
  (if p2.all fun y => decide (inl l x y) then Ev (fun k => decoupageref03_Covered.l1 k l px py n0 (wrap64 (i0 + 1))) r else r = false) →
  Ev (fun k => decoupageref03_Covered.l2 k l px py i0 n0 i0 (py.length : Int) (p1.length : Int)) r := by
 induction p2 with
 | nil =>
  rintro p1 rfl _ h
  simp only [List.all_nil, if_true] at h
  obtain ⟨K, hK⟩ := h
  refine ⟨K + 1, fun k hk => ?_⟩
  obtain ⟨k, rfl⟩ : ∃ m, k = m + 1 := ⟨k - 1, by omega⟩
  simp only [decoupageref03_Covered.l2]
  rw [if_neg (mid_ge _)]
  exact hK k (by omega)
 | cons y p2 ih =>
  rintro p1 rfl hp h
  by_cases hy : inl l x y
  ·simp only [List.all_cons, hy, decide_true, Bool.true_and] at h
   obtain ⟨K, hK⟩ := ih (p1 ++ [y]) (by simp) hp h
   refine ⟨K + l.length + 2, fun k hk => ?_⟩
   obtain ⟨k, rfl⟩ : ∃ m, k = m + 1 := ⟨k - 1, by omega⟩
   simp only [decoupageref03_Covered.l2]
   rw [if_pos (mid_lt _ _ _), if_pos h0, if_pos h1, if_pos (by omega), if_pos (mid_lt _ _ _), hx, rd_mid_i, in_eq l x y k (by omega) (by omega), mid_next p1 y p2 (by omega)]
   simp only [Option.bind_some]
   rw [if_pos (by simpa using hy)]
   exact hK k (by omega)
  ·simp only [List.all_cons, hy, decide_false, Bool.false_and, Bool.false_eq_true, if_false] at h
   refine ⟨l.length + 2, fun k hk => ?_⟩
   obtain ⟨k, rfl⟩ : ∃ m, k = m + 1 := ⟨k - 1, by omega⟩
   simp only [decoupageref03_Covered.l2]
   rw [if_pos (mid_lt _ _ _), if_pos h0, if_pos h1, if_pos (by omega), if_pos (mid_lt _ _ _), hx, rd_mid_i, in_eq l x y k (by omega) (by omega)]
   simp only [Option.bind_some]
   rw [if_neg (by simpa using hy), h]
theorem covl1 (l : List S24) (py : List Int) (hl : l.length ≤ 1000000) (hy : py.length ≤ 1000000) (p2 : List Int) : ∀ (p1 px : List Int), p1 ++ p2 = px → px.length ≤ 1000000 →
  Ev (fun k => decoupageref03_Covered.l1 k l px py (px.length : Int) (p1.length : Int)) (gridB l p2 py) := by
 induction p2 with
 | nil =>
  rintro p1 px rfl _
  refine ⟨1, fun k hk => ?_⟩
  obtain ⟨k, rfl⟩ : ∃ m, k = m + 1 := ⟨k - 1, by omega⟩
  simp only [decoupageref03_Covered.l1]
  rw [if_neg (mid_ge _)]
  rfl
 | cons x p2 ih =>
  rintro p1 px rfl hp
  have ih2 := ih (p1 ++ [x]) (p1 ++ x :: p2) (by simp) hp
  obtain ⟨K, hK⟩ := covl2 l (p1 ++ x :: p2) py (p1.length : Int) hl (gridB l (x :: p2) py) x ((p1 ++ x :: p2).length : Int) (by omega) (mid_lt _ _ _) (rd_mid_i _ _ _) py [] rfl hy (by
   by_cases h : (py.all fun y => decide (inl l x y)) = true
   ·rw [if_pos h, mid_next p1 x p2 (by omega)]
    have e : gridB l (x :: p2) py = gridB l p2 py := by unfold gridB; rw [List.all_cons, h, Bool.true_and]
    rw [e]
    exact ih2
   ·rw [if_neg h]
    unfold gridB
    rw [List.all_cons, Bool.eq_false_iff.2 h, Bool.false_and])
  refine ⟨K + 1, fun k hk => ?_⟩
  obtain ⟨k, rfl⟩ : ∃ m, k = m + 1 := ⟨k - 1, by omega⟩
  simp only [decoupageref03_Covered.l1]
  rw [if_pos (mid_lt _ _ _)]
  exact hK k (by omega)
theorem covl0 (r : S24) (l2 : List S24) : ∀ (l1 : List S24), (l1 ++ l2).length ≤ 10000 →
  Ev (fun k => decoupageref03_Covered.l0 k (l1 ++ l2) (xs l1) (ys l1) ((l1 ++ l2).length : Int) (l1.length : Int) r.f0 r.f1 r.f2 r.f3) (gridB (l1 ++ l2) (plc r.f0 r.f2 (xs (l1 ++ l2))) (plc r.f1 r.f3 (ys (l1 ++ l2)))) := by
 have hxl : ∀ l : List S24, (xs l).length = 2 * l.length := by intro l; induction l with | nil => rfl | cons a l ih => unfold xs at ih ⊢; rw [List.flatMap_cons, List.length_append, ih]; simp; omega
 have hyl : ∀ l : List S24, (ys l).length = 2 * l.length := by intro l; induction l with | nil => rfl | cons a l ih => unfold ys at ih ⊢; rw [List.flatMap_cons, List.length_append, ih]; simp; omega
 have hp : ∀ a b l, (plc a b l).length ≤ l.length + 1 := by intro a b l; unfold plc; simp only [List.length_cons]; exact Nat.succ_le_succ (List.length_filter_le _ _)
 induction l2 with
 | nil =>
  intro l1 hn
  rw [List.append_nil] at hn ⊢
  have h1 := hp r.f0 r.f2 (xs l1); have h2 := hp r.f1 r.f3 (ys l1); have h3 := hxl l1; have h4 := hyl l1
  obtain ⟨K, hK⟩ := covl1 l1 (plc r.f1 r.f3 (ys l1)) (by omega) (by omega) (plc r.f0 r.f2 (xs l1)) [] (plc r.f0 r.f2 (xs l1)) rfl (by omega)
  refine ⟨K + 2 * l1.length + 2, fun k hk => ?_⟩
  obtain ⟨k, rfl⟩ : ∃ m, k = m + 1 := ⟨k - 1, by omega⟩
  simp only [decoupageref03_Covered.l0]
  rw [if_neg (by omega), plc_eq _ _ _ k (by omega) (by omega), plc_eq _ _ _ k (by omega) (by omega)]
  exact hK k (by omega)
 | cons q l2 ih =>
  intro l1 hn
  have h3 := hxl l1; have h4 := hyl l1
  have h5 : l1.length ≤ 10000 := by simp at hn; omega
  obtain ⟨K, hK⟩ := ih (l1 ++ [q]) (by rw [← mid_app]; exact hn)
  refine ⟨K + 1, fun k hk => ?_⟩
  obtain ⟨k, rfl⟩ : ∃ m, k = m + 1 := ⟨k - 1, by omega⟩
  simp only [decoupageref03_Covered.l0]
  rw [if_pos (mid_lt _ _ _), if_pos (by omega), if_pos (mid_lt _ _ _), rd_mid, mid_next l1 q l2 (by omega)]
  simp only [Option.bind_some]
  rw [if_pos (by simp; omega), if_pos (by simp; omega)]
  have e1 : xs l1 ++ [q.f0, q.f2] = xs (l1 ++ [q]) := by unfold xs; rw [List.flatMap_append]; rfl
  have e2 : ys l1 ++ [q.f1, q.f3] = ys (l1 ++ [q]) := by unfold ys; rw [List.flatMap_append]; rfl
  rw [e1, e2, mid_app]
  exact hK k (by omega)
/-- The greatest of some that isn't above a number. -/
theorem greatest (l : List Int) (a x : Int) (h : a ≤ x) : ∃ m, m ∈ a :: l ∧ m ≤ x ∧ ∀ n ∈ a :: l, n ≤ x → n ≤ m := by
 induction l with
 | nil => exact ⟨a, by simp, h, fun n hn _ => by simp at hn; omega⟩
 | cons b l ih =>
  obtain ⟨m, h1, h2, h3⟩ := ih
  by_cases hb : b ≤ x ∧ m < b
  ·refine ⟨b, by simp, hb.1, fun n hn hx => ?_⟩
   simp only [List.mem_cons] at hn
   rcases hn with hn | hn | hn
   ·have := h3 n (by simp [hn]) hx; omega
   ·omega
   ·have := h3 n (by simp [hn]) hx; omega
  ·refine ⟨m, ?_, h2, fun n hn hx => ?_⟩
   ·simp only [List.mem_cons] at h1 ⊢; rcases h1 with h1 | h1 <;> simp [h1]
   ·simp only [List.mem_cons] at hn
    rcases hn with hn | hn | hn
    ·exact h3 n (by simp [hn]) hx
    ·subst hn; omega
    ·exact h3 n (by simp [hn]) hx
theorem grid_iff (r : S24) (l : List S24) (h0 : ¬ emp r) : gridB l (plc r.f0 r.f2 (xs l)) (plc r.f1 r.f3 (ys l)) = true ↔ ∀ x y, has r x y → inl l x y := by
 unfold gridB
 simp only [List.all_eq_true, decide_eq_true_eq]
 constructor
 ·intro h x y hr
  unfold has at hr
  obtain ⟨px, m1, m2, m3⟩ := greatest ((xs l).filter fun n => decide (r.f0 < n ∧ n < r.f2)) r.f0 x (by omega)
  obtain ⟨py, n1, n2, n3⟩ := greatest ((ys l).filter fun n => decide (r.f1 < n ∧ n < r.f3)) r.f1 y (by omega)
  obtain ⟨q, hq, hh⟩ := h px m1 py n1
  refine ⟨q, hq, ?_⟩
  have b1 : r.f0 ≤ px := m3 r.f0 (by simp) (by omega)
  have b2 : r.f1 ≤ py := n3 r.f1 (by simp) (by omega)
  unfold has at hh ⊢
  have c1 : x < q.f2 := by
   by_cases hc : x < q.f2
   ·exact hc
   ·have := m3 q.f2 (by
     simp only [List.mem_cons, List.mem_filter, decide_eq_true_eq]
     right
     refine ⟨?_, by omega⟩
     unfold xs; exact List.mem_flatMap.2 ⟨q, hq, by simp⟩) (by omega)
    omega
  have c2 : y < q.f3 := by
   by_cases hc : y < q.f3
   ·exact hc
   ·have := n3 q.f3 (by
     simp only [List.mem_cons, List.mem_filter, decide_eq_true_eq]
     right
     refine ⟨?_, by omega⟩
     unfold ys; exact List.mem_flatMap.2 ⟨q, hq, by simp⟩) (by omega)
    omega
  omega
 ·intro h x hx y hy
  refine h x y ?_
  unfold emp at h0
  unfold plc at hx hy
  simp only [List.mem_cons, List.mem_filter, decide_eq_true_eq] at hx hy
  unfold has
  omega
theorem rcov_eq (r : S24) (l : List S24) (hn : l.length ≤ 10000) : Ev (fun k => decoupageref03_Covered.f k r.f0 r.f1 r.f2 r.f3 l) (decide (rest r l = [])) := by
 by_cases h : emp r
 ·refine ⟨0, fun k _ => ?_⟩
  unfold decoupageref03_Covered.f
  rw [rempty_eq]
  simp only [Option.bind_some]
  rw [if_pos (by simpa using h)]
  have : rest r l = [] := (rest_nil_iff r l).2 fun x y hr => by unfold emp at h; unfold has at hr; omega
  simp [this]
 ·obtain ⟨K, hK⟩ := covl0 r l [] (by simpa using hn)
  refine ⟨K, fun k hk => ?_⟩
  unfold decoupageref03_Covered.f
  rw [rempty_eq]
  simp only [Option.bind_some]
  rw [if_neg (by simpa using h)]
  have e : decide (rest r l = []) = gridB l (plc r.f0 r.f2 (xs l)) (plc r.f1 r.f3 (ys l)) := by
   rw [Bool.eq_iff_iff, decide_eq_true_eq, rest_nil_iff, grid_iff r l h]
  rw [e]
  exact hK k hk
theorem cov_eq (r : S24) (l : List S24) (hn : l.length ≤ 8) : Ev (fun k => cover_Covered.f k r.f0 r.f1 r.f2 r.f3 l) (decide (rest r l = [])) := by
 obtain ⟨K, hK⟩ := rest_eq r l (by omega) (rest_bound8 r l hn)
 refine ⟨K, fun k hk => ?_⟩
 dsimp only at hK ⊢
 unfold cover_Covered.f
 rw [hK k hk]
 simp only [Option.bind_some]
 congr 1
 cases rest r l <;> simp <;> omega

/-! ### Items: who shows at a point -/
/-- Its numbers are whole numbers of their kinds. -/
def Q26 (x : S26) : Prop := I64 x.f0 ∧ I64 x.f1 ∧ Q24 x.f2 ∧ Q24 x.f3 ∧ Q24 x.f4 ∧ I64 x.f5
/-- An item shows at a point. -/
def shows (i : S26) (x y : Int) : Prop := has i.f2 x y ∧ has i.f4 x y ∧ (i.f1 = 1 → ¬ has i.f3 x y)
instance (i : S26) (x y : Int) : Decidable (shows i x y) := by unfold shows; exact inferInstance
theorem rdi (l : List S26) (n : Nat) : rd_T26 l (n : Int) = l.getD n z26 := by unfold rd_T26; simp
theorem rdi_mid (l1 : List S26) (x : S26) (l2 : List S26) : rd_T26 (l1 ++ x :: l2) (l1.length : Int) = x := by unfold rd_T26; simp
/-- Of the first n the last one that shows. -/
def ownAt (l : List S26) (x y : Int) : Nat → Option Nat
 | 0 => none
 | n + 1 => if shows (l.getD n z26) x y then some n else ownAt l x y n
theorem ownAt_lt (l : List S26) (x y : Int) : ∀ n m, ownAt l x y n = some m → m < n ∧ shows (l.getD m z26) x y ∧ ∀ j, m < j → j < n → ¬ shows (l.getD j z26) x y
 | 0, m, h => by simp [ownAt] at h
 | n + 1, m, h => by
  unfold ownAt at h
  split at h
  ·rename_i hs
   obtain rfl := Option.some.inj h
   exact ⟨by omega, hs, fun j h1 h2 => by omega⟩
  ·rename_i hs
   obtain ⟨h1, h2, h3⟩ := ownAt_lt l x y n m h
   refine ⟨by omega, h2, fun j h4 h5 => ?_⟩
   rcases Nat.lt_or_ge j n with h6 | h6
   ·exact h3 j h4 h6
   ·obtain rfl : j = n := by omega
    exact hs
theorem ownAt_none (l : List S26) (x y : Int) : ∀ n, ownAt l x y n = none → ∀ j, j < n → ¬ shows (l.getD j z26) x y
 | 0, _, j, hj => by omega
 | n + 1, h, j, hj => by
  unfold ownAt at h
  split at h
  ·cases h
  ·rename_i hs
   rcases Nat.lt_or_ge j n with h6 | h6
   ·exact ownAt_none l x y n h j h6
   ·obtain rfl : j = n := by omega
    exact hs
theorem ownAt_app (l l2 : List S26) (x y : Int) : ∀ n, n ≤ l.length → ownAt (l ++ l2) x y n = ownAt l x y n
 | 0, _ => rfl
 | n + 1, h => by
  unfold ownAt
  have e : (l ++ l2).getD n z26 = l.getD n z26 := by
   simp only [List.getD_eq_getElem?_getD]
   rw [List.getElem?_append_left (by omega)]
  rw [e, ownAt_app l l2 x y n (by omega)]
/-- Who owns a point. -/
def ownr (l : List S26) (x y : Int) : Option Nat := ownAt l x y l.length
theorem ownr_snoc (l : List S26) (i : S26) (x y : Int) : ownr (l ++ [i]) x y = if shows i x y then some l.length else ownr l x y := by
 unfold ownr
 rw [List.length_append, List.length_singleton]
 show (if _ then _ else _) = _
 have e : (l ++ [i]).getD l.length z26 = i := by simp
 rw [e, ownAt_app l [i] x y l.length (Nat.le_refl _)]
theorem ownr_lt {l : List S26} {x y : Int} {m : Nat} (h : ownr l x y = some m) : m < l.length := (ownAt_lt l x y _ m h).1

/-- What may be seen of an item. -/
def seen (i : S26) : S24 := meet i.f2 i.f4
theorem seen_eq (i : S26) : owner_Seen.f i.f0 i.f1 i.f2.f0 i.f2.f1 i.f2.f2 i.f2.f3 i.f3.f0 i.f3.f1 i.f3.f2 i.f3.f3 i.f4.f0 i.f4.f1 i.f4.f2 i.f4.f3 i.f5 = some ((seen i).f0, (seen i).f1, (seen i).f2, (seen i).f3) := by
 unfold owner_Seen.f seen
 rw [meet_eq]
 rfl

/-! ### What is hidden, and what stays -/
/-- What stays of a list. -/
def keepF (p : S26 → List S26 → Bool) : List S26 → List S26
 | [] => []
 | x :: r => if p x r then keepF p r else x :: keepF p r
theorem keepF_len (p : S26 → List S26 → Bool) : ∀ l, (keepF p l).length ≤ l.length
 | [] => Nat.le_refl _
 | x :: r => by
  have := keepF_len p r
  unfold keepF
  split
  ·simp; omega
  ·simp; omega
def backsOf (l : List S26) : List S24 := (l.filter fun y => decide (y.f1 = 0)).map seen
theorem backs_cons (x : S26) (l : List S26) : backsOf (x :: l) = if x.f1 = 0 then seen x :: backsOf l else backsOf l := by
 unfold backsOf
 by_cases h : x.f1 = 0
 ·simp [h]
 ·simp [h]
theorem backs_len (l : List S26) : (backsOf l).length ≤ l.length := by
 unfold backsOf
 rw [List.length_map]
 exact List.length_filter_le _ _

theorem rseen_eq (i : S26) (k : Nat) (hk : 3 ≤ k) : decoupageref27_Seen.f k i.f0 i.f1 i.f2.f0 i.f2.f1 i.f2.f2 i.f2.f3 i.f3.f0 i.f3.f1 i.f3.f2 i.f3.f3 i.f4.f0 i.f4.f1 i.f4.f2 i.f4.f3 i.f5 = some ((seen i).f0, (seen i).f1, (seen i).f2, (seen i).f3) := by
 unfold decoupageref27_Seen.f seen
 rw [rmeet_eq _ _ k hk]
 rfl
theorem backsl (l2 : List S26) : ∀ (l1 : List S26) (acc : List S24) (k : Nat), l2.length + 3 < k → (l1 ++ l2).length ≤ 1000000 → acc.length + l2.length ≤ 1000000 →
  decoupageref27_backs.l0 k (l1 ++ l2) acc (l1.length : Int) = some (acc ++ backsOf l2) := by
 induction l2 with
 | nil =>
  intro l1 acc k hk _ _
  obtain ⟨k, rfl⟩ : ∃ m, k = m + 1 := ⟨k - 1, by omega⟩
  simp only [decoupageref27_backs.l0]
  rw [if_neg (mid_ge _)]
  simp [backsOf]
 | cons x l2 ih =>
  intro l1 acc k hk hn ha
  obtain ⟨k, rfl⟩ : ∃ m, k = m + 1 := ⟨k - 1, by omega⟩
  simp only [List.length_cons] at ha hk
  have nx : ∀ acc' : List S24, acc'.length + l2.length ≤ 1000000 → decoupageref27_backs.l0 k (l1 ++ x :: l2) acc' ((l1 ++ [x]).length : Int) = some (acc' ++ backsOf l2) := by
   intro acc' h'
   have := ih (l1 ++ [x]) acc' k (by omega) (by rw [← mid_app]; exact hn) h'
   rw [← mid_app] at this
   exact this
  simp only [decoupageref27_backs.l0]
  rw [if_pos (mid_lt _ _ _), if_pos (by omega), rdi_mid, mid_next l1 x l2 (by omega), backs_cons]
  by_cases hz : x.f1 = 0
  ·rw [if_pos hz, if_pos hz, rseen_eq x k (by omega)]
   simp only [Option.bind_some]
   rw [if_pos (by omega)]
   refine (nx (acc ++ [seen x]) (by simp; omega)).trans ?_
   simp
  ·rw [if_neg hz, if_neg hz]
   exact nx acc (by omega)
theorem rbacks_eq (l1 l2 : List S26) (k : Nat) (hk : l2.length + 3 < k) (hn : (l1 ++ l2).length ≤ 1000000) : decoupageref27_backs.f k (l1 ++ l2) (l1.length : Int) = some (backsOf l2) := by
 unfold decoupageref27_backs.f
 exact backsl l2 l1 [] k hk hn (by simp at hn ⊢; omega)

/-! ### What is covered by all backs of the rest -/
def covB (x : S26) (r : List S26) : Bool := decide (rest (seen x) (backsOf r) = [])
/-- What stays, place by place. -/
def kfl : List S26 → List Bool
 | [] => []
 | x :: r => (!(covB x r)) :: kfl r
theorem rdb_mid (f1 : List Bool) (b : Bool) (f2 : List Bool) : rdOf false (f1 ++ b :: f2) (f1.length : Int) = b := by unfold rdOf; simp
theorem siftl1 (l2 : List S26) : ∀ (l1 acc : List S26) (f1 : List Bool) (k : Nat), f1.length = l1.length → l2.length < k → (l1 ++ l2).length ≤ 1000000 → acc.length + l2.length ≤ 1000000 →
  cull_Sift.l1 k (f1 ++ kfl l2) acc (l1 ++ l2) ((l1 ++ l2).length : Int) (l1.length : Int) = some (acc ++ keepF covB l2) := by
 induction l2 with
 | nil =>
  intro l1 acc f1 k _ hk _ _
  obtain ⟨k, rfl⟩ : ∃ m, k = m + 1 := ⟨k - 1, by omega⟩
  simp only [cull_Sift.l1]
  rw [if_neg (mid_ge _)]
  simp [keepF]
 | cons x l2 ih =>
  intro l1 acc f1 k hf hk hn ha
  obtain ⟨k, rfl⟩ : ∃ m, k = m + 1 := ⟨k - 1, by omega⟩
  simp only [List.length_cons] at ha hk
  have nx : ∀ acc' : List S26, acc'.length + l2.length ≤ 1000000 → cull_Sift.l1 k (f1 ++ kfl (x :: l2)) acc' (l1 ++ x :: l2) ((l1 ++ x :: l2).length : Int) ((l1 ++ [x]).length : Int) = some (acc' ++ keepF covB l2) := by
   intro acc' h'
   have := ih (l1 ++ [x]) acc' (f1 ++ [!(covB x l2)]) k (by simp [hf]) (by omega) (by rw [← mid_app]; exact hn) h'
   rw [← mid_app, ← mid_app] at this
   exact this
  simp only [cull_Sift.l1]
  have e : rdOf false (f1 ++ kfl (x :: l2)) (l1.length : Int) = !(covB x l2) := by
   rw [← hf]
   exact rdb_mid f1 _ _
  rw [if_pos (mid_lt _ _ _), if_pos (by omega), if_pos (mid_lt _ _ _), if_pos (by simp [kfl, hf]; omega), e, rdi_mid, mid_next l1 x l2 (by omega)]
  unfold keepF
  by_cases hh : covB x l2 = true
  ·rw [if_pos hh, hh, if_neg (by decide)]
   exact nx acc (by omega)
  ·rw [if_neg hh, Bool.eq_false_iff.2 hh, if_pos (by decide), if_pos (by omega)]
   refine (nx (acc ++ [x]) (by simp; omega)).trans ?_
   simp
theorem set_at (n : Nat) (b : Bool) (t : List Bool) : (List.replicate (n + 1) false ++ t).set n b = List.replicate n false ++ b :: t := by
 rw [List.replicate_succ', List.append_assoc, List.set_append_right _ _ (by simp)]
 simp
theorem siftl0 : ∀ (n : Nat) (l1 l2 : List S26) (B : List S24), l1.length = n → (l1 ++ l2).length ≤ 8 → B.length ≤ l2.length → (∀ x y, inl B x y ↔ inl (backsOf l2) x y) →
  Ev (fun k => cull_Sift.l0 k (l1 ++ l2) (List.replicate n false ++ kfl l2) B ((n : Int) - 1)) (keepF covB (l1 ++ l2))
 | 0, l1, l2, B, hl, hn, hB, hi => by
  obtain rfl : l1 = [] := List.length_eq_zero_iff.1 hl
  refine ⟨l2.length + 2, fun k hk => ?_⟩
  obtain ⟨k, rfl⟩ : ∃ m, k = m + 1 := ⟨k - 1, by omega⟩
  simp only [cull_Sift.l0]
  rw [if_neg (by omega)]
  exact siftl1 l2 [] [] [] k rfl (by omega) (by omega) (by simp at hn ⊢; omega)
 | n + 1, l1, l2, B, hl, hn, hB, hi => by
  obtain ⟨m1, x, rfl⟩ : ∃ m1 x, l1 = m1 ++ [x] := by
   rcases List.eq_nil_or_concat l1 with h | ⟨m1, x, h⟩
   ·rw [h] at hl; simp at hl
   ·exact ⟨m1, x, by simpa using h⟩
  have hm : m1.length = n := by simpa using hl
  rw [← mid_app] at hn ⊢
  have hlen : m1.length + (l2.length + 1) ≤ 8 := by simpa using hn
  have hc : decide (rest (seen x) B = []) = covB x l2 := by
   unfold covB
   rw [decide_eq_decide, rest_nil_iff, rest_nil_iff]
   constructor
   ·intro h u v huv; exact (hi u v).1 (h u v huv)
   ·intro h u v huv; exact (hi u v).2 (h u v huv)
  obtain ⟨K1, h1⟩ := cov_eq (seen x) B (by omega)
  dsimp only at h1
  rw [hc] at h1
  have nx : ∀ B' : List S24, B'.length ≤ l2.length + 1 → (∀ u v, inl B' u v ↔ inl (backsOf (x :: l2)) u v) →
    Ev (fun k => cull_Sift.l0 k (m1 ++ x :: l2) (List.replicate n false ++ (!(covB x l2)) :: kfl l2) B' ((n : Int) - 1)) (keepF covB (m1 ++ x :: l2)) := by
   intro B' hB' hi'
   exact siftl0 n m1 (x :: l2) B' hm hn (by simpa using hB') hi'
  have step : ∀ k, K1 ≤ k → cull_Sift.l0 (k + 1) (m1 ++ x :: l2) (List.replicate (n + 1) false ++ kfl l2) B (((n + 1 : Nat) : Int) - 1) =
    if x.f1 = 0 then (if (!(covB x l2)) = true then cull_Sift.l0 k (m1 ++ x :: l2) (List.replicate n false ++ (!(covB x l2)) :: kfl l2) (B ++ [seen x]) ((n : Int) - 1) else cull_Sift.l0 k (m1 ++ x :: l2) (List.replicate n false ++ (!(covB x l2)) :: kfl l2) B ((n : Int) - 1))
    else cull_Sift.l0 k (m1 ++ x :: l2) (List.replicate n false ++ (!(covB x l2)) :: kfl l2) B ((n : Int) - 1) := by
   intro k hk
   have e5 : ((n + 1 : Nat) : Int) - 1 = (m1.length : Int) := by omega
   have e6 : wrap64 ((m1.length : Int) - 1) = (n : Int) - 1 := by rw [w64 (by omega) (by omega)]; omega
   have e7 : (List.replicate (n + 1) false ++ kfl l2).set ((m1.length : Int)).toNat (!(covB x l2)) = List.replicate n false ++ (!(covB x l2)) :: kfl l2 := by
    rw [Int.toNat_natCast, hm]; exact set_at n _ _
   have e8 : rdOf false (List.replicate n false ++ (!(covB x l2)) :: kfl l2) (m1.length : Int) = !(covB x l2) := by
    have := rdb_mid (List.replicate n false) (!(covB x l2)) (kfl l2)
    rw [List.length_replicate] at this
    rw [hm]; exact this
   rw [e5]
   simp only [cull_Sift.l0]
   rw [if_pos (by omega), if_pos (by omega), if_pos (mid_lt _ _ _), rdi_mid, seen_eq]
   simp only [Option.bind_some]
   rw [h1 k hk]
   simp only [Option.bind_some]
   rw [if_pos (by simp; omega), e7, e8, e6]
   by_cases hz : x.f1 = 0
   ·simp only [if_pos hz]
    by_cases hh : (!(covB x l2)) = true
    ·simp only [if_pos hh]
     rw [if_pos (by omega)]
    ·simp only [if_neg hh]
   ·simp only [if_neg hz]
  rw [backs_cons] at nx
  by_cases hz : x.f1 = 0
  ·simp only [if_pos hz] at nx step
   by_cases hh : covB x l2 = true
   ·have hr : ∀ u v, has (seen x) u v → inl (backsOf l2) u v := (rest_nil_iff _ _).1 (of_decide_eq_true hh)
    obtain ⟨K2, h2⟩ := nx B (by omega) (by
     intro u v
     rw [inl_cons, hi]
     exact ⟨Or.inr, fun h => h.elim (hr u v) id⟩)
    refine ⟨K1 + K2 + 1, fun k hk => ?_⟩
    obtain ⟨k, rfl⟩ : ∃ m, k = m + 1 := ⟨k - 1, by omega⟩
    dsimp only
    rw [step k (by omega), if_neg (by simp [hh])]
    exact h2 k (by omega)
   ·obtain ⟨K2, h2⟩ := nx (B ++ [seen x]) (by simp; omega) (by
     intro u v
     rw [inl_cons, inl_app, hi, inl_cons]
     constructor
     ·rintro (h | h | h)
      ·exact Or.inr h
      ·exact Or.inl h
      ·exact absurd h (inl_nil u v)
     ·rintro (h | h)
      ·exact Or.inr (Or.inl h)
      ·exact Or.inl h)
    refine ⟨K1 + K2 + 1, fun k hk => ?_⟩
    obtain ⟨k, rfl⟩ : ∃ m, k = m + 1 := ⟨k - 1, by omega⟩
    dsimp only
    rw [step k (by omega), if_pos (by simp [hh])]
    exact h2 k (by omega)
  ·simp only [if_neg hz] at nx step
   obtain ⟨K2, h2⟩ := nx B (by omega) hi
   refine ⟨K1 + K2 + 1, fun k hk => ?_⟩
   obtain ⟨k, rfl⟩ : ∃ m, k = m + 1 := ⟨k - 1, by omega⟩
   dsimp only
   rw [step k (by omega)]
   exact h2 k (by omega)
theorem sift_eq (l : List S26) (hn : l.length ≤ 8) : Ev (fun k => cull_Sift.f k l) (keepF covB l) := by
 obtain ⟨K, h⟩ := siftl0 l.length l [] [] rfl (by simpa using hn) (by simp) (fun u v => Iff.rfl)
 refine ⟨K, fun k hk => ?_⟩
 dsimp only at h ⊢
 unfold cull_Sift.f
 have := h k hk
 rw [List.append_nil, show kfl [] = [] from rfl, List.append_nil] at this
 rw [if_pos (by omega), if_pos (by omega), w64 (by omega) (by omega)]
 exact this

theorem rcovered_eq (l1 : List S26) (x : S26) (l2 : List S26) (hn : (l1 ++ x :: l2).length ≤ 10000) : Ev (fun k => decoupageref27_Covered.f k (l1 ++ x :: l2) (l1.length : Int)) (covB x l2) := by
 have hl := backs_len l2
 obtain ⟨K, h⟩ := rcov_eq (seen x) (backsOf l2) (by simp at hn; omega)
 dsimp only at h
 refine ⟨K + l2.length + 4, fun k hk => ?_⟩
 dsimp only
 unfold decoupageref27_Covered.f
 rw [if_pos (by omega), if_pos (mid_lt _ _ _), rdi_mid, rseen_eq x k (by omega), mid_next l1 x l2 (by omega), mid_app l1 x l2, rbacks_eq (l1 ++ [x]) l2 k (by omega) (by rw [← mid_app]; omega)]
 simp only [Option.bind_some]
 rw [h k (by omega)]
 rfl
theorem rsiftl (l2 : List S26) : ∀ (l1 acc : List S26), (l1 ++ l2).length ≤ 10000 → acc.length + l2.length ≤ 1000000 →
  Ev (fun k => decoupageref27_Sift.l0 k (l1 ++ l2) acc ((l1 ++ l2).length : Int) (l1.length : Int)) (acc ++ keepF covB l2) := by
 induction l2 with
 | nil =>
  intro l1 acc _ _
  refine ⟨1, fun k hk => ?_⟩
  obtain ⟨k, rfl⟩ : ∃ m, k = m + 1 := ⟨k - 1, by omega⟩
  simp only [decoupageref27_Sift.l0]
  rw [if_neg (mid_ge _)]
  simp [keepF]
 | cons x l2 ih =>
  intro l1 acc hn ha
  simp only [List.length_cons] at ha
  have nx : ∀ acc' : List S26, acc'.length + l2.length ≤ 1000000 → Ev (fun k => decoupageref27_Sift.l0 k (l1 ++ x :: l2) acc' ((l1 ++ x :: l2).length : Int) ((l1 ++ [x]).length : Int)) (acc' ++ keepF covB l2) := by
   intro acc' h'
   have := ih (l1 ++ [x]) acc' (by rw [← mid_app]; exact hn) h'
   rw [← mid_app] at this
   exact this
  obtain ⟨K1, h1⟩ := rcovered_eq l1 x l2 hn
  dsimp only at h1
  unfold keepF
  by_cases hh : covB x l2 = true
  ·obtain ⟨K2, h2⟩ := nx acc (by omega)
   dsimp only at h2
   refine ⟨K1 + K2 + 1, fun k hk => ?_⟩
   obtain ⟨k, rfl⟩ : ∃ m, k = m + 1 := ⟨k - 1, by omega⟩
   simp only [decoupageref27_Sift.l0]
   rw [if_pos (mid_lt _ _ _), h1 k (by omega), mid_next l1 x l2 (by omega)]
   simp only [Option.bind_some]
   rw [if_pos hh, if_pos hh]
   exact h2 k (by omega)
  ·obtain ⟨K2, h2⟩ := nx (acc ++ [x]) (by simp; omega)
   dsimp only at h2
   refine ⟨K1 + K2 + 1, fun k hk => ?_⟩
   obtain ⟨k, rfl⟩ : ∃ m, k = m + 1 := ⟨k - 1, by omega⟩
   simp only [decoupageref27_Sift.l0]
   rw [if_pos (mid_lt _ _ _), h1 k (by omega), mid_next l1 x l2 (by omega)]
   simp only [Option.bind_some]
   rw [if_neg hh, if_neg hh, if_pos (by omega), if_pos (mid_lt _ _ _), if_pos (by omega), rdi_mid]
   refine (h2 k (by omega)).trans ?_
   simp
theorem rsift_eq (l : List S26) (hn : l.length ≤ 8) : Ev (fun k => decoupageref27_Sift.f k l) (keepF covB l) :=
 rsiftl l [] [] (by simp; omega) (by simp; omega)

theorem sameitl (l2 : List S26) : ∀ (l1 : List S26) (k : Nat), l2.length < k → (l1 ++ l2).length ≤ 4611686018427387904 → decoupageref25_Same.l0 k (l1 ++ l2) (l1 ++ l2) ((l1 ++ l2).length : Int) (l1.length : Int) = some true := by
 induction l2 with
 | nil =>
  intro l1 k hk _
  obtain ⟨k, rfl⟩ : ∃ m, k = m + 1 := ⟨k - 1, by omega⟩
  simp only [decoupageref25_Same.l0]
  rw [if_neg (mid_ge _)]
 | cons x l2 ih =>
  intro l1 k hk hn
  obtain ⟨k, rfl⟩ : ∃ m, k = m + 1 := ⟨k - 1, by omega⟩
  simp only [List.length_cons] at hk
  simp only [decoupageref25_Same.l0]
  rw [if_pos (mid_lt _ _ _), if_pos (by omega), if_pos (mid_lt _ _ _), if_pos (mid_lt _ _ _), rdi_mid, mid_next l1 x l2 hn]
  rw [mid_app l1 x l2] at hn ⊢
  simp only [beq_self_eq_true, Bool.not_true, Bool.or_self, Bool.false_eq_true, if_false]
  exact ih (l1 ++ [x]) k (by omega) hn
theorem sameit_refl (l : List S26) (k : Nat) (hk : l.length < k) (hn : l.length ≤ 4611686018427387904) : decoupageref25_Same.f k l l = some true := by
 unfold decoupageref25_Same.f
 rw [if_pos rfl]
 exact sameitl l [] k hk hn

theorem awake_ev : Ev (fun k => decoupagelaw27_awake.f k) true := Ev.of (k := 40) (fun k => decoupagelaw27_awake.mono k) (by decide +kernel)

theorem CullSifts : ∀ (l0 : List S26), (∀ x ∈ l0, Q26 x) → ∃ k, decoupagelaw27_CullSifts.f k l0 = some true := by
 intro l hq
 obtain ⟨KA, hA⟩ := awake_ev
 dsimp only at hA
 by_cases hl : (l.length : Int) > 8
 ·refine ⟨KA + 1, ?_⟩
  unfold decoupagelaw27_CullSifts.f
  rw [hA _ (by omega)]
  simp only [Option.bind_some, if_true, decoupagelaw27_CullSifts.j0]
  rw [if_pos (by simpa using hl), hA _ (by omega)]
  rfl
 ·obtain ⟨K1, h1⟩ := sift_eq l (by omega)
  obtain ⟨K2, h2⟩ := rsift_eq l (by omega)
  dsimp only at h1 h2
  have := keepF_len covB l
  refine ⟨KA + K1 + K2 + l.length + 2, ?_⟩
  unfold decoupagelaw27_CullSifts.f
  rw [hA _ (by omega)]
  simp only [Option.bind_some, if_true, decoupagelaw27_CullSifts.j0]
  rw [if_neg (by simpa using hl), h1 _ (by omega), h2 _ (by omega)]
  simp only [Option.bind_some]
  rw [sameit_refl _ _ (by omega) (by omega)]
  rfl

end Go.Proofs.Ytipcledgblodjaa.Pure
