/- What is proved: Of gives the specified rectangles, and Parts the specified lists. Conditions: none. -/
import Derived.Test.YtppklhfiajjhmaaZHarmTellsMHarmTells
import Derived.Test.YtppklhfiajjhmaaZHarmTellsOpens
namespace Go.Proofs.Ytppklhfiajjhmaa.Pure
open Go.RowKit Go.Proofs.Ytppklhfiajjhmaa.PHarmTells Go.Proofs.YtppklhfiajjhmaaW.PrintWords Go.Proofs.YtppklhfiajjhmaaW.PrintLast
set_option linter.unusedSimpArgs false
set_option linter.unusedVariables false
open Go.Proofs.Ytppklhfiajjhmaa.Opens

/-! ### A rectangle's points, in plain words -/
/-- No point is in it. -/
def emp (r : S37) : Prop := r.f0 ≥ r.f2 ∨ r.f1 ≥ r.f3
instance (r : S37) : Decidable (emp r) := by unfold emp; exact inferInstance
/-- A point is in it. -/
def has (r : S37) (x y : Int) : Prop := r.f0 ≤ x ∧ x < r.f2 ∧ r.f1 ≤ y ∧ y < r.f3
instance (r : S37) (x y : Int) : Decidable (has r x y) := by unfold has; exact inferInstance

theorem empty_eq (r : S37) : rect_Empty.f r.f0 r.f1 r.f2 r.f3 = some (decide (emp r)) := by
 unfold rect_Empty.f emp
 by_cases h : r.f0 ≥ r.f2
 ·rw [if_pos h]; simp [h]
 ·rw [if_neg h]; simp [h]

theorem rholds_eq (r : S37) (x y : Int) : decoupageref02_Holds.f r.f0 r.f1 r.f2 r.f3 x y = some (decide (has r x y)) := by
 unfold decoupageref02_Holds.f has
 by_cases h1 : r.f0 ≤ x
 ·by_cases h2 : x < r.f2
  ·by_cases h3 : r.f1 ≤ y
   ·rw [if_pos h1, if_pos h2, if_pos h3]; simp [h1, h2, h3]
   ·rw [if_pos h1, if_pos h2, if_neg h3]; simp [h3]
  ·rw [if_pos h1, if_neg h2]; simp [h2]
 ·rw [if_neg h1]; simp [h1]

theorem rempty_eq (r : S37) : decoupageref02_Empty.f r.f0 r.f1 r.f2 r.f3 = some (decide (emp r)) := by
 unfold decoupageref02_Empty.f
 rw [rholds_eq]
 simp only [Option.bind_some]
 by_cases h : emp r
 ·have h1 : ¬ has r r.f0 r.f1 := by unfold emp at h; unfold has; omega
  simp [h, h1]
 ·have h1 : has r r.f0 r.f1 := by unfold emp at h; unfold has; omega
  simp [h, h1]

/-- What two have in common. -/
def meet (a b : S37) : S37 :=
 if emp ⟨mx a.f0 b.f0, mx a.f1 b.f1, mn a.f2 b.f2, mn a.f3 b.f3⟩ then ⟨0, 0, 0, 0⟩ else ⟨mx a.f0 b.f0, mx a.f1 b.f1, mn a.f2 b.f2, mn a.f3 b.f3⟩
theorem meet_eq (a b : S37) : rect_Meet.f a.f0 a.f1 a.f2 a.f3 b.f0 b.f1 b.f2 b.f3 = some ((meet a b).f0, (meet a b).f1, (meet a b).f2, (meet a b).f3) := by
 unfold rect_Meet.f meet
 have h := empty_eq ⟨mx a.f0 b.f0, mx a.f1 b.f1, mn a.f2 b.f2, mn a.f3 b.f3⟩
 rw [h]
 simp only [Option.bind_some]
 by_cases h1 : emp ⟨mx a.f0 b.f0, mx a.f1 b.f1, mn a.f2 b.f2, mn a.f3 b.f3⟩
 ·simp [h1]
 ·simp [h1]
theorem mx_le {a b c : Int} : mx a b ≤ c ↔ a ≤ c ∧ b ≤ c := by unfold mx; split <;> omega
theorem lt_mn {a b c : Int} : c < mn a b ↔ c < a ∧ c < b := by unfold mn; split <;> omega
theorem mx_or (a b : Int) : mx a b = a ∧ b ≤ a ∨ mx a b = b ∧ a ≤ b := by unfold mx; split <;> omega
theorem mn_or (a b : Int) : mn a b = a ∧ a ≤ b ∨ mn a b = b ∧ b ≤ a := by unfold mn; split <;> omega
theorem has_meet (a b : S37) (x y : Int) : has (meet a b) x y ↔ has a x y ∧ has b x y := by
 unfold meet
 have e0 := mx_or a.f0 b.f0; have e1 := mx_or a.f1 b.f1; have e2 := mn_or a.f2 b.f2; have e3 := mn_or a.f3 b.f3
 split
 ·rename_i h; unfold emp at h; unfold has; simp only at h ⊢; omega
 ·rename_i h; unfold emp at h; unfold has; simp only at h ⊢; omega

/-- Its numbers are whole numbers of their kinds. -/
def Q37 (x : S37) : Prop := I64 x.f0 ∧ I64 x.f1 ∧ I64 x.f2 ∧ I64 x.f3

/-! ### A loop over a list, place by place -/
theorem w64 {n : Int} (h1 : -9223372036854775808 ≤ n) (h2 : n ≤ 9223372036854775807) : wrap64 n = n := by unfold wrap64; omega
theorem mid_lt {α : Type} (l1 : List α) (x : α) (l2 : List α) : ((l1.length : Int) < ((l1 ++ x :: l2).length : Int)) := by simp; omega
theorem mid_ge {α : Type} (l1 : List α) : ¬ ((l1.length : Int) < ((l1 ++ []).length : Int)) := by simp
theorem mid_next {α : Type} (l1 : List α) (x : α) (l2 : List α) (h : (l1 ++ x :: l2).length ≤ 4611686018427387904) : wrap64 ((l1.length : Int) + 1) = ((l1 ++ [x]).length : Int) := by
 simp at h ⊢
 rw [w64 (by omega) (by omega)]
theorem mid_app {α : Type} (l1 : List α) (x : α) (l2 : List α) : l1 ++ x :: l2 = (l1 ++ [x]) ++ l2 := by simp

theorem rd_mid (l1 : List S37) (x : S37) (l2 : List S37) : rd_T37 (l1 ++ x :: l2) (l1.length : Int) = x := by
 unfold rd_T37
 simp

/-! ### What is left of one without another one -/
/-- A rectangle has points. -/
def ne (r : S37) : Bool := !decide (emp r)
theorem ne_eq (r : S37) : ne r = decide (r.f0 < r.f2 ∧ r.f1 < r.f3) := by
 unfold ne
 by_cases h : emp r
 ·have h2 : ¬ (r.f0 < r.f2 ∧ r.f1 < r.f3) := by unfold emp at h; omega
  rw [decide_eq_true h, decide_eq_false h2]; rfl
 ·have h2 : r.f0 < r.f2 ∧ r.f1 < r.f3 := by unfold emp at h; omega
  rw [decide_eq_false h, decide_eq_true h2]; rfl
/-- What is cut out. -/
def cm (a b : S37) : S37 := if emp (meet a b) then ⟨a.f0, a.f3, a.f2, a.f3⟩ else meet a b
/-- The four pieces around what is cut out of a. -/
def pcs (a m : S37) : List S37 := [⟨a.f0, a.f1, a.f2, m.f1⟩, ⟨a.f0, m.f3, a.f2, a.f3⟩, ⟨a.f0, m.f1, m.f0, m.f3⟩, ⟨m.f2, m.f1, a.f2, m.f3⟩]
/-- What is left of a without b. -/
def cut (a b : S37) : List S37 := (pcs a (cm a b)).filter ne
theorem cutl (l2 : List S37) : ∀ (l1 acc : List S37) (k : Nat), l2.length < k → acc.length + l2.length < 4398046511104 → (l1 ++ l2).length ≤ 4611686018427387904 →
  rect_Cut.l0 k acc (l1 ++ l2) ((l1 ++ l2).length : Int) (l1.length : Int) = some (acc ++ l2.filter ne) := by
 induction l2 with
 | nil =>
  intro l1 acc k hk _ _
  obtain ⟨k, rfl⟩ : ∃ m, k = m + 1 := ⟨k - 1, by omega⟩
  simp only [rect_Cut.l0]
  rw [if_neg (mid_ge _)]
  simp
 | cons x l2 ih =>
  intro l1 acc k hk ha hn
  obtain ⟨k, rfl⟩ : ∃ m, k = m + 1 := ⟨k - 1, by omega⟩
  simp only [List.length_cons] at hk ha
  simp only [rect_Cut.l0]
  rw [if_pos (mid_lt _ _ _), if_pos (by omega), if_pos (mid_lt _ _ _), rd_mid, empty_eq, mid_next l1 x l2 hn]
  simp only [Option.bind_some]
  rw [mid_app] at hn ⊢
  by_cases he : emp x
  ·rw [if_pos (by simpa using he), ih (l1 ++ [x]) acc k (by omega) (by omega) hn]
   simp [ne, he]
  ·rw [if_neg (by simpa using he), if_pos (by omega), ih (l1 ++ [x]) (acc ++ [x]) k (by omega) (by simp; omega) hn]
   simp [ne, he]
theorem cut_eq (a b : S37) (k : Nat) (hk : 6 ≤ k) : rect_Cut.f k a.f0 a.f1 a.f2 a.f3 b.f0 b.f1 b.f2 b.f3 = some (cut a b) := by
 obtain ⟨k, rfl⟩ : ∃ m, k = m + 1 := ⟨k - 1, by omega⟩
 have hj : ∀ m : S37, rect_Cut.j0 (k + 1) a.f0 a.f1 a.f2 a.f3 m.f0 m.f1 m.f2 m.f3 = some ((pcs a m).filter ne) := fun m => by
  simp only [rect_Cut.j0, Option.bind_some]
  have := cutl (pcs a m) [] [] k (by simp [pcs]; omega) (by simp [pcs]) (by simp [pcs])
  simpa [pcs] using this
 unfold rect_Cut.f
 rw [meet_eq]
 simp only [Option.bind_some]
 rw [empty_eq (meet a b)]
 simp only [Option.bind_some]
 unfold cut cm
 by_cases h : emp (meet a b)
 ·rw [if_pos (by simpa using h), if_pos h]
  exact hj ⟨a.f0, a.f3, a.f2, a.f3⟩
 ·rw [if_neg (by simpa using h), if_neg h]
  exact hj (meet a b)
/-- In how many of some a point is. -/
def cnt (l : List S37) (x y : Int) : Nat := l.countP fun r => decide (has r x y)
theorem cnt_filter (l : List S37) (x y : Int) : cnt (l.filter ne) x y = cnt l x y := by
 unfold cnt
 rw [List.countP_filter]
 apply List.countP_congr
 intro r _
 have : has r x y → ¬ emp r := by unfold has emp; omega
 simp only [Bool.and_eq_true, decide_eq_true_eq, ne, Bool.not_eq_true', decide_eq_false_iff_not]
 exact ⟨fun h => h.1, fun h => ⟨h, this h⟩⟩
theorem cm_cases (a b : S37) : (cm a b = ⟨a.f0, a.f3, a.f2, a.f3⟩ ∧ ∀ x y, has a x y → ¬ has b x y) ∨
  (a.f0 ≤ (cm a b).f0 ∧ (cm a b).f0 < (cm a b).f2 ∧ (cm a b).f2 ≤ a.f2 ∧ a.f1 ≤ (cm a b).f1 ∧ (cm a b).f1 < (cm a b).f3 ∧ (cm a b).f3 ≤ a.f3 ∧ ∀ x y, has (cm a b) x y ↔ has a x y ∧ has b x y) := by
 unfold cm
 by_cases h : emp (meet a b)
 ·rw [if_pos h]
  left
  refine ⟨rfl, fun x y h1 h2 => ?_⟩
  have h3 := (has_meet a b x y).2 ⟨h1, h2⟩
  unfold has at h3
  unfold emp at h
  omega
 ·rw [if_neg h]
  right
  have hm := has_meet a b
  unfold emp at h
  have e0 := mx_or a.f0 b.f0; have e1 := mx_or a.f1 b.f1; have e2 := mn_or a.f2 b.f2; have e3 := mn_or a.f3 b.f3
  refine ⟨?_, by omega, ?_, ?_, by omega, ?_, hm⟩
  all_goals
   revert h
   unfold meet
   split
   ·simp
   ·simp only; omega
theorem cnt_pcs (a m : S37) (x y : Int) : cnt (pcs a m) x y =
  (if has ⟨a.f0, a.f1, a.f2, m.f1⟩ x y then 1 else 0) + (if has ⟨a.f0, m.f3, a.f2, a.f3⟩ x y then 1 else 0) +
  (if has ⟨a.f0, m.f1, m.f0, m.f3⟩ x y then 1 else 0) + (if has ⟨m.f2, m.f1, a.f2, m.f3⟩ x y then 1 else 0) := by
 unfold cnt pcs
 simp only [List.countP_cons, List.countP_nil, decide_eq_true_eq]
 omega
theorem cnt_cut (a b : S37) (x y : Int) : cnt (cut a b) x y = if has a x y ∧ ¬ has b x y then 1 else 0 := by
 unfold cut
 rw [cnt_filter, cnt_pcs]
 rcases cm_cases a b with ⟨e, h⟩ | ⟨h0, h1, h2, h3, h4, h5, h6⟩
 ·rw [e]
  have h' := h x y
  by_cases hb : has b x y
  ·have ha : ¬ has a x y := fun ha => h' ha hb
   simp only [ha, false_and, if_false]
   (repeat' split) <;> simp only [has] at * <;> omega
  ·simp only [hb, not_false_eq_true, and_true]
   clear h h' hb e
   (repeat' split) <;> simp only [has] at * <;> omega
 ·have h' := h6 x y
  clear h6
  by_cases ha : has a x y
  ·by_cases hb : has b x y
   ·have hm := h'.2 ⟨ha, hb⟩
    simp only [hb, not_true, and_false, if_false]
    clear h' ha hb
    (repeat' split) <;> simp only [has] at * <;> omega
   ·have hm : ¬ has (cm a b) x y := fun hm => hb (h'.1 hm).2
    simp only [ha, hb, not_false_eq_true, and_true, if_true]
    clear h' hb
    (repeat' split) <;> simp only [has] at * <;> omega
  ·simp only [ha, false_and, if_false]
   clear h'
   (repeat' split) <;> simp only [has] at * <;> omega

/-! ### What is left of one without others -/
/-- A point is in one of some. -/
def inl (l : List S37) (x y : Int) : Prop := ∃ q ∈ l, has q x y
theorem inl_nil (x y : Int) : ¬ inl [] x y := by rintro ⟨q, h, _⟩; simp at h
theorem inl_cons (q : S37) (l : List S37) (x y : Int) : inl (q :: l) x y ↔ has q x y ∨ inl l x y := by
 unfold inl; simp
theorem inl_app (l m : List S37) (x y : Int) : inl (l ++ m) x y ↔ inl l x y ∨ inl m x y := by
 unfold inl
 constructor
 ·rintro ⟨q, h, h2⟩
  rcases List.mem_append.1 h with h | h
  ·exact .inl ⟨q, h, h2⟩
  ·exact .inr ⟨q, h, h2⟩
 ·rintro (⟨q, h, h2⟩ | ⟨q, h, h2⟩)
  ·exact ⟨q, List.mem_append_left _ h, h2⟩
  ·exact ⟨q, List.mem_append_right _ h, h2⟩
instance (l : List S37) (x y : Int) : Decidable (inl l x y) := by unfold inl; exact inferInstance
theorem inl_cnt (l : List S37) (x y : Int) : inl l x y ↔ 1 ≤ cnt l x y := by
 unfold inl cnt
 rw [Nat.succ_le_iff, List.countP_pos_iff]
 simp
theorem cnt_app (l m : List S37) (x y : Int) : cnt (l ++ m) x y = cnt l x y + cnt m x y := List.countP_append
theorem cnt_cons (q : S37) (l : List S37) (x y : Int) : cnt (q :: l) x y = cnt l x y + if has q x y then 1 else 0 := by
 unfold cnt; rw [List.countP_cons]; simp
/-- All of some without one. -/
def cuts (left : List S37) (q : S37) : List S37 := left.flatMap fun y => cut y q
theorem cnt_cuts (left : List S37) (q : S37) (x y : Int) : cnt (cuts left q) x y = if has q x y then 0 else cnt left x y := by
 unfold cuts
 induction left with
 | nil => simp [cnt]
 | cons a left ih =>
  rw [List.flatMap_cons, cnt_app, ih, cnt_cut, cnt_cons]
  by_cases h1 : has q x y <;> by_cases h2 : has a x y <;> simp [h1, h2] <;> omega
/-- What is left of one, others cut off one behind the other. -/
def rest (r : S37) (l : List S37) : List S37 := l.foldl cuts (if emp r then [] else [r])
theorem rest_nil (r : S37) : rest r [] = if emp r then [] else [r] := rfl
theorem rest_snoc (r : S37) (l : List S37) (q : S37) : rest r (l ++ [q]) = cuts (rest r l) q := by
 unfold rest; rw [List.foldl_append]; rfl
theorem cnt_fold (l : List S37) (x y : Int) : ∀ left, cnt (l.foldl cuts left) x y = if inl l x y then 0 else cnt left x y := by
 induction l with
 | nil => intro left; simp [inl_nil]
 | cons q l ih =>
  intro left
  rw [List.foldl_cons, ih, cnt_cuts]
  by_cases h1 : has q x y <;> by_cases h2 : inl l x y <;> simp [h1, h2, inl_cons]
theorem cnt_rest (r : S37) (l : List S37) (x y : Int) : cnt (rest r l) x y = if has r x y ∧ ¬ inl l x y then 1 else 0 := by
 unfold rest
 rw [cnt_fold]
 by_cases h0 : emp r
 ·have h1 : ¬ has r x y := by unfold emp at h0; unfold has; omega
  simp [h0, h1, cnt]
 ·by_cases h1 : has r x y <;> by_cases h2 : inl l x y <;> simp [h0, h1, h2, cnt]
theorem ne_cut (a b : S37) : ∀ q ∈ cut a b, ¬ emp q := by
 intro q hq
 unfold cut at hq
 have := (List.mem_filter.1 hq).2
 simpa [ne] using this
theorem ne_fold (l : List S37) : ∀ left : List S37, (∀ q ∈ left, ¬ emp q) → ∀ q ∈ l.foldl cuts left, ¬ emp q := by
 induction l with
 | nil => intro left h; exact h
 | cons b l ih =>
  intro left h
  rw [List.foldl_cons]
  refine ih _ fun q hq => ?_
  unfold cuts at hq
  obtain ⟨a, _, ha⟩ := List.mem_flatMap.1 hq
  exact ne_cut a b q ha
theorem ne_rest (r : S37) (l : List S37) : ∀ q ∈ rest r l, ¬ emp q := by
 refine ne_fold l _ fun q hq => ?_
 by_cases h : emp r
 ·simp [h] at hq
 ·simp [h] at hq; subst hq; exact h
theorem has_corner {q : S37} (h : ¬ emp q) : has q q.f0 q.f1 := by unfold emp at h; unfold has; omega
/-- Nothing is left just where all is in the others. -/
theorem rest_nil_iff (r : S37) (l : List S37) : rest r l = [] ↔ ∀ x y, has r x y → inl l x y := by
 constructor
 ·intro h x y hr
  have := cnt_rest r l x y
  rw [h] at this
  by_cases hi : inl l x y
  ·exact hi
  ·simp [hr, hi, cnt] at this
 ·intro h
  cases hl : rest r l with
  | nil => rfl
  | cons q m =>
   have hq := ne_rest r l q (by rw [hl]; simp)
   have h1 := cnt_rest r l q.f0 q.f1
   rw [hl, cnt_cons, if_pos (has_corner hq)] at h1
   split at h1
   ·rename_i h2; exact absurd (h _ _ h2.1) h2.2
   ·omega
theorem cuts_len (left : List S37) (q : S37) : (cuts left q).length ≤ 4 * left.length := by
 unfold cuts
 induction left with
 | nil => simp
 | cons a left ih =>
  rw [List.flatMap_cons, List.length_append, List.length_cons]
  have : (cut a q).length ≤ 4 := List.length_filter_le ne (pcs a (cm a q))
  omega
theorem rest_len (r : S37) (l : List S37) : (rest r l).length ≤ 4 ^ l.length := by
 unfold rest
 have key : ∀ (l left : List S37), (l.foldl cuts left).length ≤ 4 ^ l.length * left.length := by
  intro l
  induction l with
  | nil => intro left; simp
  | cons q l ih =>
   intro left
   rw [List.foldl_cons, List.length_cons, Nat.pow_succ, Nat.mul_assoc]
   exact Nat.le_trans (ih _) (Nat.mul_le_mul_left _ (cuts_len left q))
 have h := key l (if emp r then [] else [r])
 split at h
 ·simp at h ⊢; rename_i h0; simp [h0, h]
 ·rename_i h0; simpa [h0] using h

/-! ### Rest of the program -/
theorem restl1 (q : S37) (L : List S37) (n i : Int) (r : List S37) (l2 : List S37) : ∀ (l1 acc : List S37), (l1 ++ l2).length ≤ 4611686018427387904 → acc.length + (cuts l2 q).length < 4398046511104 →
  Ev (fun k => cover_Rest.l0 k (acc ++ cuts l2 q) L n (wrap64 (i + 1))) r → Ev (fun k => cover_Rest.l1 k acc L n i (l1 ++ l2) ((l1 ++ l2).length : Int) (l1.length : Int) q.f0 q.f1 q.f2 q.f3) r := by
 induction l2 with
 | nil =>
  rintro l1 acc hn hb ⟨K, hK⟩
  refine ⟨K + 1, fun k hk => ?_⟩
  obtain ⟨k, rfl⟩ : ∃ m, k = m + 1 := ⟨k - 1, by omega⟩
  simp only [cover_Rest.l1]
  rw [if_neg (mid_ge _)]
  have := hK k (by omega)
  simpa [cuts] using this
 | cons a l2 ih =>
  intro l1 acc hn hb hE
  have hb2 : acc.length + ((cut a q).length + (cuts l2 q).length) < 4398046511104 := by
   unfold cuts at hb ⊢
   rw [List.flatMap_cons, List.length_append] at hb
   exact hb
  obtain ⟨K, hK⟩ := ih (l1 ++ [a]) (acc ++ cut a q) (by rw [← mid_app]; exact hn) (by rw [List.length_append]; omega) (by
   have e : acc ++ cut a q ++ cuts l2 q = acc ++ cuts (a :: l2) q := by unfold cuts; rw [List.flatMap_cons, List.append_assoc]
   rw [e]; exact hE)
  refine ⟨K + 7, fun k hk => ?_⟩
  obtain ⟨k, rfl⟩ : ∃ m, k = m + 1 := ⟨k - 1, by omega⟩
  simp only [cover_Rest.l1]
  rw [if_pos (mid_lt _ _ _), if_pos (by omega), if_pos (mid_lt _ _ _), rd_mid, mid_next l1 a l2 hn, cut_eq a q k (by omega)]
  simp only [Option.bind_some]
  rw [if_pos (by omega), mid_app]
  exact hK k (by omega)
theorem restl0 (l2 : List S37) : ∀ (l1 left : List S37), (l1 ++ l2).length ≤ 4611686018427387904 → (∀ i, i ≤ l2.length → ((l2.take i).foldl cuts left).length < 4398046511104) →
  Ev (fun k => cover_Rest.l0 k left (l1 ++ l2) ((l1 ++ l2).length : Int) (l1.length : Int)) (l2.foldl cuts left) := by
 induction l2 with
 | nil =>
  intro l1 left hn _
  refine ⟨1, fun k hk => ?_⟩
  obtain ⟨k, rfl⟩ : ∃ m, k = m + 1 := ⟨k - 1, by omega⟩
  simp only [cover_Rest.l0]
  rw [if_neg (mid_ge _)]
  rfl
 | cons q l2 ih =>
  intro l1 left hn hb
  have hn2 : ((l1 ++ [q]) ++ l2).length ≤ 4611686018427387904 := by rw [← mid_app]; exact hn
  have ih2 := ih (l1 ++ [q]) (cuts left q) hn2 (fun i hi => by
   have := hb (i + 1) (by simp; omega)
   simpa using this)
  have h0 := hb 0 (by simp)
  have h1 := hb 1 (by simp)
  simp only [List.take_zero, List.foldl_nil] at h0
  simp only [List.take_succ_cons, List.take_zero, List.foldl_cons, List.foldl_nil] at h1
  obtain ⟨K, hK⟩ := restl1 q (l1 ++ q :: l2) ((l1 ++ q :: l2).length : Int) (l1.length : Int) (l2.foldl cuts (cuts left q)) left [] [] (by simp; omega) (by simpa using h1) (by
   rw [mid_next l1 q l2 hn, List.nil_append, mid_app]
   exact ih2)
  refine ⟨K + 1, fun k hk => ?_⟩
  obtain ⟨k, rfl⟩ : ∃ m, k = m + 1 := ⟨k - 1, by omega⟩
  simp only [cover_Rest.l0]
  rw [if_pos (mid_lt _ _ _), if_pos (by omega), if_pos (mid_lt _ _ _), rd_mid]
  exact hK k (by omega)
theorem rest_eq (r : S37) (l : List S37) (hn : l.length ≤ 4611686018427387904) (hb : ∀ i, i ≤ l.length → (rest r (l.take i)).length < 4398046511104) :
  Ev (fun k => cover_Rest.f k r.f0 r.f1 r.f2 r.f3 l) (rest r l) := by
 obtain ⟨K, hK⟩ := restl0 l [] (if emp r then [] else [r]) (by simpa using hn) hb
 refine ⟨K + 1, fun k hk => ?_⟩
 obtain ⟨k, rfl⟩ : ∃ m, k = m + 1 := ⟨k - 1, by omega⟩
 have := hK k (by omega)
 unfold cover_Rest.f
 rw [empty_eq]
 simp only [Option.bind_some, cover_Rest.j0]
 by_cases h : emp r
 ·rw [if_pos (by simpa using h)]
  rw [if_pos h] at this
  rw [rest, if_pos h]
  exact this
 ·rw [if_neg (by simpa using h), if_pos (by simp)]
  rw [if_neg h] at this
  rw [rest, if_neg h]
  exact this
theorem rest_bound8 (r : S37) (l : List S37) (h : l.length ≤ 8) : ∀ i, i ≤ l.length → (rest r (l.take i)).length < 4398046511104 := by
 intro i hi
 have h1 := rest_len r (l.take i)
 have h2 : (l.take i).length ≤ 8 := by rw [List.length_take]; omega
 have h3 : 4 ^ (l.take i).length ≤ 4 ^ 8 := Nat.pow_le_pow_right (by decide) h2
 have h4 : (4 : Nat) ^ 8 = 65536 := by decide
 omega

theorem rd_at (l : List S37) (n : Nat) : rd_T37 l (n : Int) = l.getD n z37 := by unfold rd_T37; simp

/-! ### Join: how many rectangles there are at most -/
/-- All points of all. -/
def join (l : List S37) : List S37 := l.foldl (fun out r => out ++ rest r out) []
theorem join_snoc (l : List S37) (r : S37) : join (l ++ [r]) = join l ++ rest r (join l) := by unfold join; rw [List.foldl_append]; rfl
theorem join_fold (l : List S37) : ∀ (p : List S37), l.foldl (fun out r => out ++ rest r out) (join p) = join (p ++ l) := by
 intro p; unfold join; rw [List.foldl_append]
theorem snoc_ind {α : Type} {P : List α → Prop} (h0 : P []) (hs : ∀ l x, P l → P (l ++ [x])) (l : List α) : P l := by
 have key : ∀ n (l : List α), l.length = n → P l := by
  intro n
  induction n with
  | zero => intro l h; rw [List.length_eq_zero_iff.1 h]; exact h0
  | succ n ih =>
   intro l h
   have hne : l ≠ [] := by rintro rfl; simp at h
   rw [← List.dropLast_concat_getLast hne]
   exact hs _ _ (ih _ (by rw [List.length_dropLast]; omega))
 exact key l.length l rfl
theorem cnt_join (l : List S37) (x y : Int) : cnt (join l) x y = if inl l x y then 1 else 0 := by
 induction l using snoc_ind with
 | h0 => simp [join, cnt, inl_nil]
 | hs l r ih =>
  rw [join_snoc, cnt_app, cnt_rest, ih]
  have h1 : inl (join l) x y ↔ inl l x y := by
   rw [inl_cnt, ih]
   by_cases h : inl l x y <;> simp [h]
  have h2 : inl (l ++ [r]) x y ↔ inl l x y ∨ has r x y := by
   rw [inl_app, inl_cons]
   simp [inl_nil]
  simp only [h1, h2]
  by_cases g1 : inl l x y <;> by_cases g2 : has r x y <;> simp [g1, g2]
theorem ne_join (l : List S37) : ∀ q ∈ join l, ¬ emp q := by
 induction l using snoc_ind with
 | h0 => intro q hq; simp [join] at hq
 | hs l r ih =>
  intro q hq
  rw [join_snoc, List.mem_append] at hq
  rcases hq with hq | hq
  ·exact ih q hq
  ·exact ne_rest _ _ q hq
/-- Its ends are among these. -/
def inXY (X Y : List Int) (q : S37) : Prop := (q.f0 ∈ X ∧ q.f2 ∈ X) ∧ q.f1 ∈ Y ∧ q.f3 ∈ Y
theorem inXY_cut {X Y : List Int} {a b : S37} (ha : inXY X Y a) (hb : inXY X Y b) : ∀ q ∈ cut a b, inXY X Y q := by
 intro q hq
 unfold cut at hq
 have hq := (List.mem_filter.1 hq).1
 obtain ⟨⟨a0, a2⟩, a1, a3⟩ := ha
 obtain ⟨⟨b0, b2⟩, b1, b3⟩ := hb
 have hm : inXY X Y (cm a b) := by
  unfold cm
  split
  ·exact ⟨⟨a0, a2⟩, a3, a3⟩
  ·rename_i h
   have e0 := mx_or a.f0 b.f0; have e1 := mx_or a.f1 b.f1; have e2 := mn_or a.f2 b.f2; have e3 := mn_or a.f3 b.f3
   unfold meet at h ⊢
   split
   ·rename_i h2; rw [if_pos h2] at h; exfalso; apply h; unfold emp; simp
   ·refine ⟨⟨?_, ?_⟩, ?_, ?_⟩
    ·show mx a.f0 b.f0 ∈ X; rcases e0 with ⟨e, _⟩ | ⟨e, _⟩ <;> rw [e] <;> assumption
    ·show mn a.f2 b.f2 ∈ X; rcases e2 with ⟨e, _⟩ | ⟨e, _⟩ <;> rw [e] <;> assumption
    ·show mx a.f1 b.f1 ∈ Y; rcases e1 with ⟨e, _⟩ | ⟨e, _⟩ <;> rw [e] <;> assumption
    ·show mn a.f3 b.f3 ∈ Y; rcases e3 with ⟨e, _⟩ | ⟨e, _⟩ <;> rw [e] <;> assumption
 obtain ⟨⟨m0, m2⟩, m1, m3⟩ := hm
 unfold pcs at hq
 simp only [List.mem_cons, List.not_mem_nil, or_false] at hq
 rcases hq with rfl | rfl | rfl | rfl
 ·exact ⟨⟨a0, a2⟩, a1, m1⟩
 ·exact ⟨⟨a0, a2⟩, m3, a3⟩
 ·exact ⟨⟨a0, m0⟩, m1, m3⟩
 ·exact ⟨⟨m2, a2⟩, m1, m3⟩
theorem inXY_fold {X Y : List Int} (l : List S37) (hl : ∀ q ∈ l, inXY X Y q) : ∀ left : List S37, (∀ q ∈ left, inXY X Y q) → ∀ q ∈ l.foldl cuts left, inXY X Y q := by
 induction l with
 | nil => intro left h; exact h
 | cons b l ih =>
  intro left h
  rw [List.foldl_cons]
  refine ih (fun q hq => hl q (by simp [hq])) _ fun q hq => ?_
  unfold cuts at hq
  obtain ⟨a, ha, hqa⟩ := List.mem_flatMap.1 hq
  exact inXY_cut (h a ha) (hl b (by simp)) q hqa
theorem inXY_rest {X Y : List Int} (r : S37) (l : List S37) (hr : inXY X Y r) (hl : ∀ q ∈ l, inXY X Y q) : ∀ q ∈ rest r l, inXY X Y q := by
 refine inXY_fold l hl _ fun q hq => ?_
 by_cases h : emp r
 ·simp [h] at hq
 ·simp [h] at hq; subst hq; exact hr
theorem inXY_join {X Y : List Int} (l : List S37) (hl : ∀ q ∈ l, inXY X Y q) : ∀ q ∈ join l, inXY X Y q := by
 induction l using snoc_ind with
 | h0 => intro q hq; simp [join] at hq
 | hs l r ih =>
  have h1 := ih fun q hq => hl q (by simp [hq])
  intro q hq
  rw [join_snoc, List.mem_append] at hq
  rcases hq with hq | hq
  ·exact h1 q hq
  ·exact inXY_rest r _ (hl r (by simp)) h1 q hq
/-- Each of some that are apart has a corner of its own: there are no more than corners. -/
theorem pigeon (G : List (Int × Int)) (l : List S37) (h1 : ∀ x y, cnt l x y ≤ 1) (h2 : ∀ q ∈ l, ¬ emp q ∧ (q.f0, q.f1) ∈ G) : l.length ≤ G.length := by
 have k1 : ∀ G : List (Int × Int), (G.map fun p => cnt l p.1 p.2).sum ≤ G.length := by
  intro G
  induction G with
  | nil => simp
  | cons p G ih => simp only [List.map_cons, List.sum_cons, List.length_cons]; have := h1 p.1 p.2; omega
 have k2 : ∀ (l : List S37), (∀ q ∈ l, ¬ emp q ∧ (q.f0, q.f1) ∈ G) → l.length ≤ (G.map fun p => cnt l p.1 p.2).sum := by
  intro l
  induction l with
  | nil => simp
  | cons q l ih =>
   intro h
   have hh := ih fun q hq => h q (by simp [hq])
   obtain ⟨g1, g2⟩ := h q (by simp)
   have k3 : ∀ G : List (Int × Int), (q.f0, q.f1) ∈ G → (G.map fun p => cnt l p.1 p.2).sum + 1 ≤ (G.map fun p => cnt (q :: l) p.1 p.2).sum := by
    intro G
    induction G with
    | nil => intro h; simp at h
    | cons p G ih2 =>
     intro hm
     simp only [List.map_cons, List.sum_cons]
     have e := cnt_cons q l p.1 p.2
     have k4 : (G.map fun p => cnt l p.1 p.2).sum ≤ (G.map fun p => cnt (q :: l) p.1 p.2).sum := by
      clear ih2 hm
      induction G with
      | nil => simp
      | cons p G ih3 => simp only [List.map_cons, List.sum_cons]; have := cnt_cons q l p.1 p.2; omega
     rcases List.mem_cons.1 hm with hm | hm
     ·subst hm
      rw [if_pos (has_corner g1)] at e
      omega
     ·have := ih2 hm
      omega
   have := k3 G g2
   simp only [List.length_cons]
   omega
 exact Nat.le_trans (k2 l h2) (k1 G)
/-- All ends of some. -/
def ex (l : List S37) : List Int := l.flatMap fun q => [q.f0, q.f2]
def ey (l : List S37) : List Int := l.flatMap fun q => [q.f1, q.f3]
theorem ex_len (l : List S37) : (ex l).length = 2 * l.length := by induction l with | nil => rfl | cons a l ih => unfold ex at ih ⊢; rw [List.flatMap_cons, List.length_append, ih]; simp; omega
theorem ey_len (l : List S37) : (ey l).length = 2 * l.length := by induction l with | nil => rfl | cons a l ih => unfold ey at ih ⊢; rw [List.flatMap_cons, List.length_append, ih]; simp; omega
theorem inXY_self (l : List S37) : ∀ q ∈ l, inXY (ex l) (ey l) q := by
 intro q hq
 unfold inXY ex ey
 simp only [List.mem_flatMap]
 exact ⟨⟨⟨q, hq, by simp⟩, ⟨q, hq, by simp⟩⟩, ⟨q, hq, by simp⟩, ⟨q, hq, by simp⟩⟩
/-- Rectangles that are apart, with their ends among so many, are few. -/
theorem few_of {X Y : List Int} (l : List S37) (h1 : ∀ x y, cnt l x y ≤ 1) (h2 : ∀ q ∈ l, ¬ emp q) (h3 : ∀ q ∈ l, inXY X Y q) : l.length ≤ X.length * Y.length := by
 have := pigeon (X.flatMap fun x => Y.map fun y => (x, y)) l h1 fun q hq => ⟨h2 q hq, by
  obtain ⟨⟨g0, _⟩, g1, _⟩ := h3 q hq
  rw [List.mem_flatMap]
  exact ⟨_, g0, List.mem_map.2 ⟨_, g1, rfl⟩⟩⟩
 have e : (X.flatMap fun x => Y.map fun y => (x, y)).length = X.length * Y.length := by
  rw [List.length_flatMap]
  clear h3 this
  induction X with
  | nil => simp
  | cons a X ih => simp only [List.map_cons, List.sum_cons, List.length_map, List.length_cons, Nat.succ_mul] at ih ⊢; omega
 omega
theorem join_len (l : List S37) (h : l.length ≤ 100) : (join l).length ≤ 40000 := by
 have := few_of (join l) (fun x y => by rw [cnt_join]; split <;> omega) (ne_join l) (inXY_join l (inXY_self l))
 have e1 := ex_len l; have e2 := ey_len l
 have : (ex l).length * (ey l).length ≤ 200 * 200 := Nat.mul_le_mul (by omega) (by omega)
 omega
/-- What is left at each step of one of some without the joined ones ahead is few. -/
theorem rest_join_len (l : List S37) (r : S37) (h : l.length < 100) (i : Nat) : (rest r ((join l).take i)).length ≤ 40000 := by
 have hX : ∀ q ∈ l ++ [r], inXY (ex (l ++ [r])) (ey (l ++ [r])) q := inXY_self _
 have hj : ∀ q ∈ (join l).take i, inXY (ex (l ++ [r])) (ey (l ++ [r])) q := fun q hq => inXY_join l (fun q hq => hX q (by simp [hq])) q (List.mem_of_mem_take hq)
 have := few_of (rest r ((join l).take i)) (fun x y => by rw [cnt_rest]; split <;> omega) (ne_rest _ _) (inXY_rest r _ (hX r (by simp)) hj)
 have e1 := ex_len (l ++ [r]); have e2 := ey_len (l ++ [r])
 rw [List.length_append, List.length_singleton] at e1 e2
 have : (ex (l ++ [r])).length * (ey (l ++ [r])).length ≤ 200 * 200 := Nat.mul_le_mul (by omega) (by omega)
 omega

theorem joinl (l2 : List S37) : ∀ (l1 : List S37), (l1 ++ l2).length ≤ 90 →
  Ev (fun k => cover_Join.l0 k (join l1) (l1 ++ l2) ((l1 ++ l2).length : Int) (l1.length : Int)) (join (l1 ++ l2)) := by
 induction l2 with
 | nil =>
  intro l1 hn
  refine ⟨1, fun k hk => ?_⟩
  obtain ⟨k, rfl⟩ : ∃ m, k = m + 1 := ⟨k - 1, by omega⟩
  simp only [cover_Join.l0]
  rw [if_neg (mid_ge _), List.append_nil]
 | cons q l2 ih =>
  intro l1 hn
  obtain ⟨K, hK⟩ := ih (l1 ++ [q]) (by rw [← mid_app]; exact hn)
  have hl : l1.length < 90 := by simp at hn; omega
  have hj := join_len l1 (by omega)
  obtain ⟨K2, h2⟩ := rest_eq q (join l1) (by omega) (fun i _ => by have := rest_join_len l1 q (by omega) i; omega)
  have hr := rest_join_len l1 q (by omega) (join l1).length
  rw [List.take_length] at hr
  dsimp only at hK h2
  refine ⟨K + K2 + 1, fun k hk => ?_⟩
  obtain ⟨k, rfl⟩ : ∃ m, k = m + 1 := ⟨k - 1, by omega⟩
  simp only [cover_Join.l0]
  rw [if_pos (mid_lt _ _ _), if_pos (by omega), if_pos (mid_lt _ _ _), rd_mid, mid_next l1 q l2 (by omega), h2 k (by omega)]
  simp only [Option.bind_some]
  rw [if_pos (by omega), ← join_snoc, mid_app l1 q l2]
  exact hK k (by omega)
theorem join_eq (l : List S37) (hn : l.length ≤ 90) : Ev (fun k => cover_Join.f k l) (join l) := joinl l [] hn

/-! ### Items: who shows at a point -/
/-- Its numbers are whole numbers of their kinds. -/
def Q39 (x : S39) : Prop := I64 x.f0 ∧ I64 x.f1 ∧ Q37 x.f2 ∧ Q37 x.f3 ∧ Q37 x.f4 ∧ I64 x.f5
/-- An item shows at a point. -/
def shows (i : S39) (x y : Int) : Prop := has i.f2 x y ∧ has i.f4 x y ∧ (i.f1 = 1 → ¬ has i.f3 x y)
instance (i : S39) (x y : Int) : Decidable (shows i x y) := by unfold shows; exact inferInstance
theorem rdi (l : List S39) (n : Nat) : rd_T39 l (n : Int) = l.getD n z39 := by unfold rd_T39; simp
theorem rdi_mid (l1 : List S39) (x : S39) (l2 : List S39) : rd_T39 (l1 ++ x :: l2) (l1.length : Int) = x := by unfold rd_T39; simp
/-- Of the first n the last one that shows. -/
def ownAt (l : List S39) (x y : Int) : Nat → Option Nat
 | 0 => none
 | n + 1 => if shows (l.getD n z39) x y then some n else ownAt l x y n
theorem ownAt_lt (l : List S39) (x y : Int) : ∀ n m, ownAt l x y n = some m → m < n ∧ shows (l.getD m z39) x y ∧ ∀ j, m < j → j < n → ¬ shows (l.getD j z39) x y
 | 0, m, h => by simp [ownAt] at h
 | n + 1, m, h => by
  unfold ownAt at h
  split at h
  ·rename_i hs
   obtain rfl := Option.some.inj h
   exact ⟨by omega, hs, fun j h1 h2 => by omega⟩
  ·rename_i hs
   obtain ⟨h1, h2, h3⟩ := ownAt_lt l x y n m h
   refine ⟨by omega, h2, fun j h4 h5 => ?_⟩
   rcases Nat.lt_or_ge j n with h6 | h6
   ·exact h3 j h4 h6
   ·obtain rfl : j = n := by omega
    exact hs
theorem ownAt_none (l : List S39) (x y : Int) : ∀ n, ownAt l x y n = none → ∀ j, j < n → ¬ shows (l.getD j z39) x y
 | 0, _, j, hj => by omega
 | n + 1, h, j, hj => by
  unfold ownAt at h
  split at h
  ·cases h
  ·rename_i hs
   rcases Nat.lt_or_ge j n with h6 | h6
   ·exact ownAt_none l x y n h j h6
   ·obtain rfl : j = n := by omega
    exact hs
theorem ownAt_app (l l2 : List S39) (x y : Int) : ∀ n, n ≤ l.length → ownAt (l ++ l2) x y n = ownAt l x y n
 | 0, _ => rfl
 | n + 1, h => by
  unfold ownAt
  have e : (l ++ l2).getD n z39 = l.getD n z39 := by
   simp only [List.getD_eq_getElem?_getD]
   rw [List.getElem?_append_left (by omega)]
  rw [e, ownAt_app l l2 x y n (by omega)]
/-- Who owns a point. -/
def ownr (l : List S39) (x y : Int) : Option Nat := ownAt l x y l.length
theorem ownr_snoc (l : List S39) (i : S39) (x y : Int) : ownr (l ++ [i]) x y = if shows i x y then some l.length else ownr l x y := by
 unfold ownr
 rw [List.length_append, List.length_singleton]
 show (if _ then _ else _) = _
 have e : (l ++ [i]).getD l.length z39 = i := by simp
 rw [e, ownAt_app l [i] x y l.length (Nat.le_refl _)]
theorem ownr_lt {l : List S39} {x y : Int} {m : Nat} (h : ownr l x y = some m) : m < l.length := (ownAt_lt l x y _ m h).1

/-- What may be seen of an item. -/
def seen (i : S39) : S37 := meet i.f2 i.f4
theorem seen_eq (i : S39) : owner_Seen.f i.f0 i.f1 i.f2.f0 i.f2.f1 i.f2.f2 i.f2.f3 i.f3.f0 i.f3.f1 i.f3.f2 i.f3.f3 i.f4.f0 i.f4.f1 i.f4.f2 i.f4.f3 i.f5 = some ((seen i).f0, (seen i).f1, (seen i).f2, (seen i).f3) := by
 unfold owner_Seen.f seen
 rw [meet_eq]
 rfl

/-! ### Items that look alike -/
def eqr (r s : S37) : Bool := r.f0 == s.f0 && (r.f1 == s.f1 && (r.f2 == s.f2 && (r.f3 == s.f3)))
theorem eqr_iff (r s : S37) : eqr r s = true ↔ r = s := by
 unfold eqr
 cases r; cases s
 simp
/-- Two look alike: all but whose they are. -/
def alk (a b : S39) : Bool := a.f1 == b.f1 && (eqr a.f2 b.f2 && (eqr a.f3 b.f3 && (eqr a.f4 b.f4 && (a.f5 == b.f5))))
theorem alk_iff (a b : S39) : alk a b = true ↔ a.f1 = b.f1 ∧ a.f2 = b.f2 ∧ a.f3 = b.f3 ∧ a.f4 = b.f4 ∧ a.f5 = b.f5 := by
 unfold alk
 simp only [Bool.and_eq_true, beq_iff_eq, eqr_iff]
theorem alk_refl (a : S39) : alk a a = true := (alk_iff a a).2 ⟨rfl, rfl, rfl, rfl, rfl⟩
theorem alk_comm (a b : S39) : alk a b = alk b a := by
 rw [Bool.eq_iff_iff, alk_iff, alk_iff]
 constructor <;> rintro ⟨h1, h2, h3, h4, h5⟩ <;> exact ⟨h1.symm, h2.symm, h3.symm, h4.symm, h5.symm⟩
theorem alike_eq (a b : S39) : harm_Alike.f a.f0 a.f1 a.f2.f0 a.f2.f1 a.f2.f2 a.f2.f3 a.f3.f0 a.f3.f1 a.f3.f2 a.f3.f3 a.f4.f0 a.f4.f1 a.f4.f2 a.f4.f3 a.f5 b.f0 b.f1 b.f2.f0 b.f2.f1 b.f2.f2 b.f2.f3 b.f3.f0 b.f3.f1 b.f3.f2 b.f3.f3 b.f4.f0 b.f4.f1 b.f4.f2 b.f4.f3 b.f5 = some (alk a b) := by
 unfold harm_Alike.f alk
 have e : ∀ r s : S37, (r.f0 == s.f0 && (r.f1 == s.f1 && (r.f2 == s.f2 && (r.f3 == s.f3)))) = eqr r s := fun _ _ => rfl
 rw [e, e, e]
 by_cases h : a.f1 = b.f1 <;> cases eqr a.f2 b.f2 <;> cases eqr a.f3 b.f3 <;> cases eqr a.f4 b.f4 <;> simp [h]
/-- How many look alike at the beginning. -/
def pre : List S39 → List S39 → Nat
 | a :: as_, b :: bs => if alk a b then pre as_ bs + 1 else 0
 | _, _ => 0
theorem pre_le : ∀ (a b : List S39), pre a b ≤ a.length ∧ pre a b ≤ b.length
 | [], _ => by simp [pre]
 | _ :: _, [] => by simp [pre]
 | a :: as_, b :: bs => by
  have := pre_le as_ bs
  unfold pre
  split <;> simp <;> omega
theorem pre_comm : ∀ (a b : List S39), pre a b = pre b a
 | [], [] => rfl
 | [], _ :: _ => rfl
 | _ :: _, [] => rfl
 | a :: as_, b :: bs => by
  unfold pre
  rw [alk_comm a b, pre_comm as_ bs]
theorem pre_self : ∀ (a : List S39), pre a a = a.length
 | [] => rfl
 | a :: as_ => by unfold pre; rw [alk_refl, if_pos rfl, pre_self as_, List.length_cons]
/-- What stands between what is alike at both ends: of the first. -/
def midA (a b : List S39) : List S39 :=
 let x := a.drop (pre a b); let y := b.drop (pre a b)
 (x.reverse.drop (pre x.reverse y.reverse)).reverse
/-- .. and of the second. -/
def midB (a b : List S39) : List S39 :=
 let x := a.drop (pre a b); let y := b.drop (pre a b)
 (y.reverse.drop (pre x.reverse y.reverse)).reverse
theorem midB_eq (a b : List S39) : midB a b = midA b a := by
 unfold midA midB
 simp only
 rw [pre_comm b a, pre_comm (List.drop (pre a b) b).reverse]
theorem midA_len (a b : List S39) : (midA a b).length ≤ a.length := by
 unfold midA
 simp only [List.length_reverse, List.length_drop]
 omega

theorem rdi0 (a : S39) (l : List S39) : rd_T39 (a :: l) 0 = a := rfl
theorem partsl1 : ∀ (r s : List S39) (k : Nat), r.length < k → r.length ≤ 1000000 → s.length ≤ 1000000 →
  harm_Parts.l1 k r.reverse s.reverse = some ((r.drop (pre r s)).reverse, (s.drop (pre r s)).reverse)
 | [], s, k, hk, hr, hs => by
  obtain ⟨k, rfl⟩ : ∃ m, k = m + 1 := ⟨k - 1, by omega⟩
  simp only [harm_Parts.l1]
  rw [if_neg (by simp), if_pos (by simp), if_pos (by simp <;> omega)]
  simp [pre]
 | a :: r, [], k, hk, hr, hs => by
  obtain ⟨k, rfl⟩ : ∃ m, k = m + 1 := ⟨k - 1, by omega⟩
  simp only [harm_Parts.l1]
  rw [if_pos (by simp <;> omega), if_neg (by simp), if_pos (by simp at hr ⊢ <;> omega), if_pos (by simp)]
  simp [pre]
 | a :: r, b :: s, k, hk, hr, hs => by
  obtain ⟨k, rfl⟩ : ∃ m, k = m + 1 := ⟨k - 1, by omega⟩
  simp only [List.length_cons] at hk hr hs
  have e1 : wrap64 (((a :: r).reverse.length : Int) - 1) = (r.length : Int) := by rw [w64 (by simp <;> omega) (by simp <;> omega)]; simp
  have e2 : wrap64 (((b :: s).reverse.length : Int) - 1) = (s.length : Int) := by rw [w64 (by simp <;> omega) (by simp <;> omega)]; simp
  have g1 : rd_T39 (a :: r).reverse (r.length : Int) = a := by rw [List.reverse_cons, rdi]; simp
  have g2 : rd_T39 (b :: s).reverse (s.length : Int) = b := by rw [List.reverse_cons, rdi]; simp
  simp only [harm_Parts.l1]
  rw [e1, e2, g1, g2, alike_eq, if_pos (by simp <;> omega), if_pos (by simp <;> omega), if_pos (by omega), if_pos (by simp <;> omega), if_pos (by omega), if_pos (by simp <;> omega)]
  simp only [Option.bind_some]
  by_cases h : alk a b = true
  ·rw [if_pos h, if_pos (by simp <;> omega), if_pos (by simp <;> omega), Int.toNat_natCast, Int.toNat_natCast]
   have t1 : (a :: r).reverse.take r.length = r.reverse := by rw [List.reverse_cons, List.take_left' (by simp)]
   have t2 : (b :: s).reverse.take s.length = s.reverse := by rw [List.reverse_cons, List.take_left' (by simp)]
   rw [t1, t2, partsl1 r s k (by omega) (by omega) (by omega)]
   have : pre (a :: r) (b :: s) = pre r s + 1 := by rw [pre, if_pos h]
   rw [this, List.drop_succ_cons, List.drop_succ_cons]
  ·rw [if_neg h, if_pos (by simp <;> omega), if_pos (by simp <;> omega)]
   have : pre (a :: r) (b :: s) = 0 := by rw [pre, if_neg h]
   rw [this]
   simp
theorem partsl0 : ∀ (a b : List S39) (k : Nat), a.length + a.length + 2 < k → a.length ≤ 1000000 → b.length ≤ 1000000 →
  harm_Parts.l0 k a b = some (midA a b, midB a b)
 | a, b, k, hk, ha, hb => by
  have hj : ∀ (x y : List S39) (k : Nat), x.length + 1 < k → x.length ≤ 1000000 → y.length ≤ 1000000 → pre x y = 0 → harm_Parts.j1 k x y = some (midA x y, midB x y) := by
   intro x y k hk hx hy hp
   obtain ⟨k, rfl⟩ : ∃ m, k = m + 1 := ⟨k - 1, by omega⟩
   simp only [harm_Parts.j1]
   have := partsl1 x.reverse y.reverse k (by simp <;> omega) (by simpa using hx) (by simpa using hy)
   rw [List.reverse_reverse, List.reverse_reverse] at this
   rw [this]
   unfold midA midB
   rw [hp]
   rfl
  match a, b, hk, ha, hb with
  | [], b, hk, ha, hb =>
   obtain ⟨k, rfl⟩ : ∃ m, k = m + 1 := ⟨k - 1, by omega⟩
   simp only [harm_Parts.l0]
   rw [if_neg (by simp)]
   exact hj _ _ k (by simp at hk ⊢ <;> omega) ha hb rfl
  | a :: as_, [], hk, ha, hb =>
   obtain ⟨k, rfl⟩ : ∃ m, k = m + 1 := ⟨k - 1, by omega⟩
   simp only [harm_Parts.l0]
   rw [if_pos (by simp <;> omega), if_neg (by simp)]
   exact hj _ _ k (by simp at hk ⊢ <;> omega) ha hb rfl
  | a :: as_, b :: bs, hk, ha, hb =>
   obtain ⟨k, rfl⟩ : ∃ m, k = m + 1 := ⟨k - 1, by omega⟩
   simp only [List.length_cons] at hk ha hb
   simp only [harm_Parts.l0]
   rw [if_pos (by simp <;> omega), if_pos (by simp <;> omega), if_pos (by simp <;> omega), if_pos (by simp <;> omega), rdi0, rdi0, alike_eq]
   simp only [Option.bind_some]
   by_cases h : alk a b = true
   ·rw [if_pos h, if_pos (by simp <;> omega), if_pos (by simp <;> omega), List.drop_succ_cons, List.drop_succ_cons, List.drop_zero, List.drop_zero, partsl0 as_ bs k (by omega) (by omega) (by omega)]
    have : pre (a :: as_) (b :: bs) = pre as_ bs + 1 := by rw [pre, if_pos h]
    unfold midA midB
    rw [this, List.drop_succ_cons, List.drop_succ_cons]
   ·rw [if_neg h]
    exact hj _ _ k (by simp <;> omega) (by simp <;> omega) (by simp <;> omega) (by rw [pre, if_neg h])
termination_by a => a.length
theorem parts_eq (a b : List S39) (k : Nat) (hk : a.length + a.length + 2 < k) (ha : a.length ≤ 1000000) (hb : b.length ≤ 1000000) : harm_Parts.f k a b = some (midA a b, midB a b) := partsl0 a b k hk ha hb
/-- What has to be painted anew. -/
def harm (a b : List S39) : List S37 := join ((midA a b ++ midB a b).map seen)
theorem harml (l2 : List S39) : ∀ (l1 : List S39), (l1 ++ l2).length ≤ 90 →
  Ev (fun k => harm_Of.l0 k (l1.map seen) (l1 ++ l2) ((l1 ++ l2).length : Int) (l1.length : Int)) (join ((l1 ++ l2).map seen)) := by
 induction l2 with
 | nil =>
  intro l1 hn
  rw [List.append_nil] at hn ⊢
  obtain ⟨K, hK⟩ := join_eq (l1.map seen) (by simpa using hn)
  dsimp only at hK
  refine ⟨K + 1, fun k hk => ?_⟩
  obtain ⟨k, rfl⟩ : ∃ m, k = m + 1 := ⟨k - 1, by omega⟩
  simp only [harm_Of.l0]
  rw [if_neg (by omega), hK k (by omega)]
  rfl
 | cons i l2 ih =>
  intro l1 hn
  have hl : l1.length < 90 := by simp at hn; omega
  obtain ⟨K, hK⟩ := ih (l1 ++ [i]) (by rw [← mid_app]; exact hn)
  refine ⟨K + 1, fun k hk => ?_⟩
  obtain ⟨k, rfl⟩ : ∃ m, k = m + 1 := ⟨k - 1, by omega⟩
  simp only [harm_Of.l0]
  rw [if_pos (mid_lt _ _ _), if_pos (by omega), if_pos (mid_lt _ _ _), rdi_mid, mid_next l1 i l2 (by omega), seen_eq]
  simp only [Option.bind_some]
  rw [if_pos (by rw [List.length_map]; omega), mid_app l1 i l2]
  have e : l1.map seen ++ [seen i] = (l1 ++ [i]).map seen := by simp
  have e2 := hK k (by omega)
  rw [← e] at e2
  exact e2
theorem harm_eq (a b : List S39) (ha : a.length + b.length ≤ 90) : Ev (fun k => harm_Of.f k a b) (harm a b) := by
 have h1 := midA_len a b
 have h2 := midA_len b a
 rw [← midB_eq] at h2
 obtain ⟨K, hK⟩ := harml (midA a b ++ midB a b) [] (by simp <;> omega)
 refine ⟨K + 300, fun k hk => ?_⟩
 show harm_Of.f k a b = _
 unfold harm_Of.f
 rw [parts_eq a b k (by omega) (by omega) (by omega)]
 simp only [Option.bind_some]
 rw [if_pos (by omega)]
 exact hK k (by omega)

theorem awake_ev : Ev (fun k => decoupagelaw29_awake.f k) true := Ev.of (k := 40) (fun k => decoupagelaw29_awake.mono k) (by decide +kernel)

theorem rmeet_eq (a b : S37) (k : Nat) (hk : 3 ≤ k) : decoupageref02_Meet.f k a.f0 a.f1 a.f2 a.f3 b.f0 b.f1 b.f2 b.f3 = some ((meet a b).f0, (meet a b).f1, (meet a b).f2, (meet a b).f3) := by
 obtain ⟨k, rfl⟩ : ∃ m, k = m + 3 := ⟨k - 3, by omega⟩
 have hE : ∀ p q r s : Int, decoupageref02_Empty.f p q r s = some (decide (emp ⟨p, q, r, s⟩)) := fun p q r s => rempty_eq ⟨p, q, r, s⟩
 unfold decoupageref02_Meet.f meet
 simp only [decoupageref02_Meet.j0, decoupageref02_Meet.j1, decoupageref02_Meet.j2, hE, Option.bind_some, mx, mn]
 simp only [gt_iff_lt]
 by_cases h0 : a.f0 < b.f0 <;> by_cases h1 : a.f1 < b.f1 <;> by_cases h2 : b.f2 < a.f2 <;> by_cases h3 : b.f3 < a.f3 <;>
  simp only [h0, h1, h2, h3, if_true, if_false] <;> split <;> simp_all

theorem rcut_eq (a b : S37) (k : Nat) (hk : 3 ≤ k) : decoupageref02_Cut.f k a.f0 a.f1 a.f2 a.f3 b.f0 b.f1 b.f2 b.f3 = some (cut a b) := by
 unfold decoupageref02_Cut.f
 rw [rmeet_eq a b k hk, rempty_eq]
 simp only [Option.bind_some]
 by_cases ha : emp a
 ·rw [if_pos (by simpa using ha)]
  have hm : emp (meet a b) := by
   have e0 := mx_or a.f0 b.f0; have e1 := mx_or a.f1 b.f1; have e2 := mn_or a.f2 b.f2; have e3 := mn_or a.f3 b.f3
   unfold meet
   split
   ·unfold emp; simp
   ·rename_i h; unfold emp at h ha ⊢; simp only at h ⊢; omega
  unfold cut cm
  rw [if_pos hm]
  unfold emp at ha
  simp only [pcs, List.filter_cons, List.filter_nil, ne_eq, decide_eq_true_eq]
  repeat rw [if_neg (by omega)]
 rw [if_neg (by simpa using ha), rempty_eq (meet a b)]
 simp only [Option.bind_some]
 by_cases hm : emp (meet a b)
 ·rw [if_pos (by simpa using hm)]
  unfold cut cm
  rw [if_pos hm]
  unfold emp at ha
  simp only [pcs, List.filter_cons, List.filter_nil, ne_eq, decide_eq_true_eq]
  rw [if_pos (by omega)]
  repeat rw [if_neg (by omega)]
 rw [if_neg (by simpa using hm)]
 obtain ⟨k, rfl⟩ : ∃ m, k = m + 2 := ⟨k - 2, by omega⟩
 have hc : cm a b = meet a b := by unfold cm; rw [if_neg hm]
 have hh := cm_cases a b
 rw [hc] at hh
 unfold cut
 rw [hc]
 generalize meet a b = m at hh hm ⊢
 have hi : a.f0 ≤ m.f0 ∧ m.f0 < m.f2 ∧ m.f2 ≤ a.f2 ∧ a.f1 ≤ m.f1 ∧ m.f1 < m.f3 ∧ m.f3 ≤ a.f3 := by
  rcases hh with ⟨e, _⟩ | ⟨h0, h1, h2, h3, h4, h5, _⟩
  ·exfalso; rw [e] at hm; unfold emp at hm; simp at hm
  ·exact ⟨h0, h1, h2, h3, h4, h5⟩
 clear hh hc
 unfold emp at ha hm
 have e1 : ne ⟨a.f0, a.f1, a.f2, m.f1⟩ = decide (a.f1 < m.f1) := by rw [ne_eq, decide_eq_decide]; simp only; omega
 have e2 : ne ⟨a.f0, m.f3, a.f2, a.f3⟩ = decide (m.f3 < a.f3) := by rw [ne_eq, decide_eq_decide]; simp only; omega
 have e3 : ne ⟨a.f0, m.f1, m.f0, m.f3⟩ = decide (a.f0 < m.f0) := by rw [ne_eq, decide_eq_decide]; simp only; omega
 have e4 : ne ⟨m.f2, m.f1, a.f2, m.f3⟩ = decide (m.f2 < a.f2) := by rw [ne_eq, decide_eq_decide]; simp only; omega
 simp only [pcs, List.filter_cons, List.filter_nil, e1, e2, e3, e4, decide_eq_true_eq, decoupageref02_Cut.j0, decoupageref02_Cut.j1]
 by_cases g1 : a.f1 < m.f1 <;> by_cases g2 : m.f3 < a.f3 <;> by_cases g3 : a.f0 < m.f0 <;> by_cases g4 : m.f2 < a.f2 <;> simp [g1, g2, g3, g4]

theorem samel (l2 : List S37) : ∀ (l1 : List S37) (k : Nat), l2.length < k → (l1 ++ l2).length ≤ 4611686018427387904 → decoupageref02_Same.l0 k (l1 ++ l2) (l1 ++ l2) ((l1 ++ l2).length : Int) (l1.length : Int) = some true := by
 induction l2 with
 | nil =>
  intro l1 k hk _
  obtain ⟨k, rfl⟩ : ∃ m, k = m + 1 := ⟨k - 1, by omega⟩
  simp only [decoupageref02_Same.l0]
  rw [if_neg (mid_ge _)]
 | cons x l2 ih =>
  intro l1 k hk hn
  obtain ⟨k, rfl⟩ : ∃ m, k = m + 1 := ⟨k - 1, by omega⟩
  simp only [List.length_cons] at hk
  simp only [decoupageref02_Same.l0]
  rw [if_pos (mid_lt _ _ _), if_pos (by omega), if_pos (mid_lt _ _ _), if_pos (mid_lt _ _ _), rd_mid, mid_next l1 x l2 hn]
  rw [mid_app] at hn ⊢
  simp only [beq_self_eq_true, Bool.not_true, Bool.or_self, Bool.false_eq_true, if_false]
  exact ih (l1 ++ [x]) k (by omega) hn
theorem same_refl (l : List S37) (k : Nat) (hk : l.length < k) (hn : l.length ≤ 4611686018427387904) : decoupageref02_Same.f k l l = some true := by
 unfold decoupageref02_Same.f
 rw [if_pos rfl]
 exact samel l [] k hk hn

/-! ### The document's Rest -/
theorem rrestl (L : List S37) (n : Nat) (q : S37) (hL : n < L.length) (hq : L.getD n z37 = q) (l2 : List S37) : ∀ (l1 acc : List S37), (l1 ++ l2).length ≤ 4611686018427387904 → acc.length + (cuts l2 q).length < 4398046511104 →
  Ev (fun k => decoupageref03_Rest.l0 k L (n : Int) (l1 ++ l2) acc ((l1 ++ l2).length : Int) (l1.length : Int)) (acc ++ cuts l2 q) := by
 induction l2 with
 | nil =>
  intro l1 acc hn hb
  refine ⟨1, fun k hk => ?_⟩
  obtain ⟨k, rfl⟩ : ∃ m, k = m + 1 := ⟨k - 1, by omega⟩
  simp only [decoupageref03_Rest.l0]
  rw [if_neg (mid_ge _)]
  simp [cuts]
 | cons a l2 ih =>
  intro l1 acc hn hb
  have hb2 : acc.length + ((cut a q).length + (cuts l2 q).length) < 4398046511104 := by
   unfold cuts at hb ⊢
   rw [List.flatMap_cons, List.length_append] at hb
   exact hb
  obtain ⟨K, hK⟩ := ih (l1 ++ [a]) (acc ++ cut a q) (by rw [← mid_app]; exact hn) (by rw [List.length_append]; omega)
  refine ⟨K + 7, fun k hk => ?_⟩
  obtain ⟨k, rfl⟩ : ∃ m, k = m + 1 := ⟨k - 1, by omega⟩
  simp only [decoupageref03_Rest.l0]
  rw [if_pos (mid_lt _ _ _), if_pos (by omega), if_pos (mid_lt _ _ _), if_pos (by omega), if_pos (by omega), rd_mid, rd_at, hq, mid_next l1 a l2 hn, rcut_eq a q k (by omega)]
  simp only [Option.bind_some]
  rw [if_pos (by omega), mid_app]
  have e : acc ++ cuts (a :: l2) q = acc ++ cut a q ++ cuts l2 q := by unfold cuts; rw [List.flatMap_cons, List.append_assoc]
  rw [e]
  exact hK k (by omega)
theorem rrest_eq (r : S37) : ∀ (n : Nat) (l : List S37), l.length = n → n ≤ 1000000 → (∀ i, i ≤ l.length → (rest r (l.take i)).length < 4398046511104) →
  Ev (fun k => decoupageref03_Rest.f k r.f0 r.f1 r.f2 r.f3 l) (rest r l)
 | 0, l, hl, _, _ => by
  obtain rfl := List.length_eq_zero_iff.1 hl
  refine ⟨1, fun k hk => ?_⟩
  obtain ⟨k, rfl⟩ : ∃ m, k = m + 1 := ⟨k - 1, by omega⟩
  simp only [decoupageref03_Rest.f]
  rw [rempty_eq]
  simp only [Option.bind_some]
  by_cases h : emp r
  ·rw [if_pos (by simpa using h)]; simp [rest, h]
  ·rw [if_neg (by simpa using h)]; simp [rest, h]
 | n + 1, l, hl, hn, hb => by
  have hlast : l = l.take n ++ [l.getD n z37] := by
   have hi2 : n < l.length := by omega
   have : l.getD n z37 = l[n] := by simp [List.getD_eq_getElem?_getD, hi2]
   rw [this, List.take_append_getElem hi2, List.take_of_length_le (by omega)]
  have e2 : rest r l = cuts (rest r (l.take n)) (l.getD n z37) := by
   have := rest_snoc r (l.take n) (l.getD n z37)
   rw [← hlast] at this
   exact this
  have hb1 := hb n (by omega)
  have hb2 := hb (n + 1) (by omega)
  rw [List.take_of_length_le (by omega)] at hb2
  by_cases h : emp r
  ·refine ⟨1, fun k hk => ?_⟩
   obtain ⟨k, rfl⟩ : ∃ m, k = m + 1 := ⟨k - 1, by omega⟩
   simp only [decoupageref03_Rest.f]
   rw [rempty_eq]
   simp only [Option.bind_some]
   rw [if_pos (by simpa using h)]
   have : rest r l = [] := (rest_nil_iff r l).2 fun x y hr => by unfold emp at h; unfold has at hr; omega
   rw [this]
  obtain ⟨K1, h1⟩ := rrest_eq r n (l.take n) (by rw [List.length_take]; omega) (by omega) (fun i hi => by
   rw [List.length_take] at hi
   rw [List.take_take, Nat.min_eq_left (by omega)]
   exact hb i (by omega))
  obtain ⟨K2, h2⟩ := rrestl l n (l.getD n z37) (by omega) rfl (rest r (l.take n)) [] [] (by simp; omega) (by rw [e2] at hb2; simpa using hb2)
  dsimp only at h1 h2
  refine ⟨K1 + K2 + 1, fun k hk => ?_⟩
  obtain ⟨k, rfl⟩ : ∃ m, k = m + 1 := ⟨k - 1, by omega⟩
  simp only [decoupageref03_Rest.f]
  rw [rempty_eq]
  simp only [Option.bind_some]
  have e3 : wrap64 ((l.length : Int) - 1) = (n : Int) := by rw [w64 (by omega) (by omega)]; omega
  rw [if_neg (by simpa using h), if_neg (by omega), e3, if_pos (by omega), if_pos (by omega), Int.toNat_natCast, h1 k (by omega)]
  simp only [Option.bind_some]
  rw [e2]
  exact h2 k (by omega)

theorem rjoinl (l2 : List S37) : ∀ (l1 : List S37), (l1 ++ l2).length ≤ 90 →
  Ev (fun k => decoupageref03_Join.l0 k (l1 ++ l2) (join l1) ((l1 ++ l2).length : Int) (l1.length : Int)) (join (l1 ++ l2)) := by
 induction l2 with
 | nil =>
  intro l1 hn
  refine ⟨1, fun k hk => ?_⟩
  obtain ⟨k, rfl⟩ : ∃ m, k = m + 1 := ⟨k - 1, by omega⟩
  simp only [decoupageref03_Join.l0]
  rw [if_neg (mid_ge _), List.append_nil]
 | cons q l2 ih =>
  intro l1 hn
  obtain ⟨K, hK⟩ := ih (l1 ++ [q]) (by rw [← mid_app]; exact hn)
  have hl : l1.length < 90 := by simp at hn; omega
  have hj := join_len l1 (by omega)
  obtain ⟨K2, h2⟩ := rrest_eq q (join l1).length (join l1) rfl (by omega) (fun i _ => by have := rest_join_len l1 q (by omega) i; omega)
  have hr := rest_join_len l1 q (by omega) (join l1).length
  rw [List.take_length] at hr
  dsimp only at hK h2
  refine ⟨K + K2 + 1, fun k hk => ?_⟩
  obtain ⟨k, rfl⟩ : ∃ m, k = m + 1 := ⟨k - 1, by omega⟩
  simp only [decoupageref03_Join.l0]
  rw [if_pos (mid_lt _ _ _), if_pos (by omega), if_pos (mid_lt _ _ _), rd_mid, mid_next l1 q l2 (by omega), h2 k (by omega)]
  simp only [Option.bind_some]
  rw [if_pos (by omega), ← join_snoc, mid_app l1 q l2]
  exact hK k (by omega)
theorem rjoin_eq (l : List S37) (hn : l.length ≤ 90) : Ev (fun k => decoupageref03_Join.f k l) (join l) := rjoinl l [] hn

theorem ralike_eq (a b : S39) : decoupageref29_Alike.f a.f0 a.f1 a.f2.f0 a.f2.f1 a.f2.f2 a.f2.f3 a.f3.f0 a.f3.f1 a.f3.f2 a.f3.f3 a.f4.f0 a.f4.f1 a.f4.f2 a.f4.f3 a.f5 b.f0 b.f1 b.f2.f0 b.f2.f1 b.f2.f2 b.f2.f3 b.f3.f0 b.f3.f1 b.f3.f2 b.f3.f3 b.f4.f0 b.f4.f1 b.f4.f2 b.f4.f3 b.f5 = some (alk a b) := rfl
/-- How many look alike at the end of what is left. -/
def suf (a b : List S39) : Nat := pre (a.drop (pre a b)).reverse (b.drop (pre a b)).reverse
theorem pre_drop : ∀ (a b : List S39) (n : Nat), n ≤ pre a b → pre a b = n + pre (a.drop n) (b.drop n)
 | a, b, 0, _ => by simp
 | [], _, n + 1, h => by simp [pre] at h
 | _ :: _, [], n + 1, h => by simp [pre] at h
 | a :: as_, b :: bs, n + 1, h => by
  have e : pre (a :: as_) (b :: bs) = if alk a b then pre as_ bs + 1 else 0 := rfl
  rw [e] at h ⊢
  split at h
  ·rename_i hc
   rw [if_pos hc, List.drop_succ_cons, List.drop_succ_cons, pre_drop as_ bs n (by omega)]
   omega
  ·omega
theorem suf_le (a b : List S39) : pre a b + suf a b ≤ a.length ∧ pre a b + suf a b ≤ b.length := by
 have h1 := pre_le (a.drop (pre a b)).reverse (b.drop (pre a b)).reverse
 have h2 := pre_le a b
 simp only [List.length_reverse, List.length_drop] at h1
 unfold suf
 omega
theorem midA_cut (a b : List S39) : midA a b = (a.take (a.length - suf a b)).drop (pre a b) := by
 have h := suf_le a b
 have e : midA a b = ((a.drop (pre a b)).reverse.drop (suf a b)).reverse := rfl
 rw [e, List.drop_reverse, List.reverse_reverse, List.length_drop, List.drop_take]
 congr 1
 omega
theorem suf_comm (a b : List S39) : suf a b = suf b a := by unfold suf; rw [pre_comm b a, pre_comm (List.drop (pre a b) b).reverse]
theorem midB_cut (a b : List S39) : midB a b = (b.take (b.length - suf a b)).drop (pre a b) := by rw [midB_eq, midA_cut, suf_comm, pre_comm]
theorem endsl0 (a b : List S39) (r : Int × Int) (K : Nat) (hj : ∀ k, K ≤ k → decoupageref29_Ends.j1 k a b (pre a b : Int) = some r) (hn : a.length ≤ 1000000) (hm : b.length ≤ 1000000) : ∀ (d n k : Nat), n + d = pre a b → d + K + 1 ≤ k →
  decoupageref29_Ends.l0 k a b (n : Int) = some r := by
 have hp := pre_le a b
 intro d
 induction d with
 | zero =>
  intro n k hd hk
  obtain ⟨k, rfl⟩ : ∃ m, k = m + 1 := ⟨k - 1, by omega⟩
  obtain rfl : n = pre a b := by omega
  simp only [decoupageref29_Ends.l0]
  by_cases h1 : pre a b < a.length
  ·by_cases h2 : pre a b < b.length
   ·rw [if_pos (by omega), if_pos (by omega), if_pos (by omega), rdi, rdi, ralike_eq]
    simp only [Option.bind_some]
    have h3 : alk (a.getD (pre a b) z39) (b.getD (pre a b) z39) = false := by
     have e1 : a.drop (pre a b) = a.getD (pre a b) z39 :: a.drop (pre a b + 1) := by
      rw [List.getD_eq_getElem?_getD, List.getElem?_eq_getElem h1, Option.getD_some, List.getElem_cons_drop]
     have e2 : b.drop (pre a b) = b.getD (pre a b) z39 :: b.drop (pre a b + 1) := by
      rw [List.getD_eq_getElem?_getD, List.getElem?_eq_getElem h2, Option.getD_some, List.getElem_cons_drop]
     have e3 := pre_drop a b (pre a b) (Nat.le_refl _)
     have e4 : pre (a.drop (pre a b)) (b.drop (pre a b)) = 0 := by omega
     rw [e1, e2, pre] at e4
     split at e4
     ·omega
     ·rename_i hc; exact Bool.eq_false_iff.2 hc
    rw [h3, if_neg (by decide)]
    exact hj k (by omega)
   ·rw [if_pos (by omega), if_neg (by omega)]
    exact hj k (by omega)
  ·rw [if_neg (by omega)]
   exact hj k (by omega)
 | succ d ih =>
  intro n k hd hk
  obtain ⟨k, rfl⟩ : ∃ m, k = m + 1 := ⟨k - 1, by omega⟩
  have e : wrap64 ((n : Int) + 1) = ((n + 1 : Nat) : Int) := by rw [w64 (by omega) (by omega)]; omega
  have h1 : n < a.length := by omega
  have h2 : n < b.length := by omega
  simp only [decoupageref29_Ends.l0]
  rw [if_pos (by omega), if_pos (by omega), if_pos (by omega), rdi, rdi, ralike_eq, e]
  simp only [Option.bind_some]
  have h3 : alk (a.getD n z39) (b.getD n z39) = true := by
   have e1 : a.drop n = a.getD n z39 :: a.drop (n + 1) := by
    rw [List.getD_eq_getElem?_getD, List.getElem?_eq_getElem h1, Option.getD_some, List.getElem_cons_drop]
   have e2 : b.drop n = b.getD n z39 :: b.drop (n + 1) := by
    rw [List.getD_eq_getElem?_getD, List.getElem?_eq_getElem h2, Option.getD_some, List.getElem_cons_drop]
   have e3 := pre_drop a b n (by omega)
   rw [e1, e2, pre] at e3
   split at e3
   ·rename_i hc; exact hc
   ·omega
  rw [if_pos h3]
  exact ih (n + 1) k (by omega) (by omega)
theorem endsl1 (a b : List S39) (hn : a.length ≤ 1000000) (hm : b.length ≤ 1000000) : ∀ (d m k : Nat), m + d = suf a b → d + 1 ≤ k →
  decoupageref29_Ends.l1 k a b (pre a b : Int) (m : Int) = some ((pre a b : Int), (suf a b : Int)) := by
 have hp := suf_le a b
 have hx : ∀ (l : List S39) (p m : Nat), p ≤ l.length → l.length ≤ 1000000 → m < l.length - p → rd_T39 l (wrap64 (wrap64 ((l.length : Int) - 1) - (m : Int))) = ((l.drop p).reverse).getD m z39 := by
  intro l p m h1 h2 h3
  have e : wrap64 (wrap64 ((l.length : Int) - 1) - (m : Int)) = ((l.length - 1 - m : Nat) : Int) := by
   rw [w64 (n := (l.length : Int) - 1) (by omega) (by omega), w64 (by omega) (by omega)]; omega
  have hlt : m < (l.drop p).reverse.length := by simp; omega
  rw [e, rdi, List.getD_eq_getElem?_getD, List.getD_eq_getElem?_getD, List.getElem?_eq_getElem (by omega), List.getElem?_eq_getElem hlt, Option.getD_some, Option.getD_some, List.getElem_reverse, List.getElem_drop]
  congr 1
  simp
  omega
 have hw : ∀ (l : List S39), l.length ≤ 1000000 → pre a b ≤ l.length → wrap64 ((l.length : Int) - (pre a b : Int)) = ((l.length - pre a b : Nat) : Int) := by
  intro l h1 h2
  rw [w64 (by omega) (by omega)]; omega
 have hz : ∀ (l : List S39) (m : Nat), l.length ≤ 1000000 → m < l.length → 0 ≤ wrap64 (wrap64 ((l.length : Int) - 1) - (m : Int)) ∧ wrap64 (wrap64 ((l.length : Int) - 1) - (m : Int)) < (l.length : Int) := by
  intro l m h1 h2
  rw [w64 (n := (l.length : Int) - 1) (by omega) (by omega), w64 (by omega) (by omega)]; omega
 intro d
 induction d with
 | zero =>
  intro m k hd hk
  obtain ⟨k, rfl⟩ : ∃ m, k = m + 1 := ⟨k - 1, by omega⟩
  obtain rfl : m = suf a b := by omega
  simp only [decoupageref29_Ends.l1]
  rw [hw a hn (by omega), hw b hm (by omega)]
  by_cases h1 : suf a b < a.length - pre a b
  ·by_cases h2 : suf a b < b.length - pre a b
   ·rw [if_pos (by omega), if_pos (by omega), if_pos (hz a _ hn (by omega)).1, if_pos (hz a _ hn (by omega)).2, if_pos (hz b _ hm (by omega)).1, if_pos (hz b _ hm (by omega)).2, hx a (pre a b) _ (by omega) hn h1, hx b (pre a b) _ (by omega) hm h2, ralike_eq]
    simp only [Option.bind_some]
    have h3 : alk ((a.drop (pre a b)).reverse.getD (suf a b) z39) ((b.drop (pre a b)).reverse.getD (suf a b) z39) = false := by
     have l1 : suf a b < (a.drop (pre a b)).reverse.length := by simp; omega
     have l2 : suf a b < (b.drop (pre a b)).reverse.length := by simp; omega
     have e1 : (a.drop (pre a b)).reverse.drop (suf a b) = (a.drop (pre a b)).reverse.getD (suf a b) z39 :: (a.drop (pre a b)).reverse.drop (suf a b + 1) := by
      rw [List.getD_eq_getElem?_getD, List.getElem?_eq_getElem l1, Option.getD_some, List.getElem_cons_drop]
     have e2 : (b.drop (pre a b)).reverse.drop (suf a b) = (b.drop (pre a b)).reverse.getD (suf a b) z39 :: (b.drop (pre a b)).reverse.drop (suf a b + 1) := by
      rw [List.getD_eq_getElem?_getD, List.getElem?_eq_getElem l2, Option.getD_some, List.getElem_cons_drop]
     have e3 := pre_drop (a.drop (pre a b)).reverse (b.drop (pre a b)).reverse (suf a b) (Nat.le_refl _)
     have e5 : pre (a.drop (pre a b)).reverse (b.drop (pre a b)).reverse = suf a b := rfl
     have e4 : pre ((a.drop (pre a b)).reverse.drop (suf a b)) ((b.drop (pre a b)).reverse.drop (suf a b)) = 0 := by omega
     rw [e1, e2, pre] at e4
     split at e4
     ·omega
     ·rename_i hc; exact Bool.eq_false_iff.2 hc
    rw [h3, if_neg (by decide)]
   ·rw [if_pos (by omega), if_neg (by omega)]
  ·rw [if_neg (by omega)]
 | succ d ih =>
  intro m k hd hk
  obtain ⟨k, rfl⟩ : ∃ m, k = m + 1 := ⟨k - 1, by omega⟩
  have e : wrap64 ((m : Int) + 1) = ((m + 1 : Nat) : Int) := by rw [w64 (by omega) (by omega)]; omega
  simp only [decoupageref29_Ends.l1]
  rw [hw a hn (by omega), hw b hm (by omega), if_pos (by omega), if_pos (by omega), if_pos (hz a _ hn (by omega)).1, if_pos (hz a _ hn (by omega)).2, if_pos (hz b _ hm (by omega)).1, if_pos (hz b _ hm (by omega)).2, hx a (pre a b) _ (by omega) hn (by omega), hx b (pre a b) _ (by omega) hm (by omega), ralike_eq, e]
  simp only [Option.bind_some]
  have h3 : alk ((a.drop (pre a b)).reverse.getD m z39) ((b.drop (pre a b)).reverse.getD m z39) = true := by
   have l1 : m < (a.drop (pre a b)).reverse.length := by simp; omega
   have l2 : m < (b.drop (pre a b)).reverse.length := by simp; omega
   have e1 : (a.drop (pre a b)).reverse.drop m = (a.drop (pre a b)).reverse.getD m z39 :: (a.drop (pre a b)).reverse.drop (m + 1) := by
    rw [List.getD_eq_getElem?_getD, List.getElem?_eq_getElem l1, Option.getD_some, List.getElem_cons_drop]
   have e2 : (b.drop (pre a b)).reverse.drop m = (b.drop (pre a b)).reverse.getD m z39 :: (b.drop (pre a b)).reverse.drop (m + 1) := by
    rw [List.getD_eq_getElem?_getD, List.getElem?_eq_getElem l2, Option.getD_some, List.getElem_cons_drop]
   have e5 : pre (a.drop (pre a b)).reverse (b.drop (pre a b)).reverse = suf a b := rfl
   have e3 := pre_drop (a.drop (pre a b)).reverse (b.drop (pre a b)).reverse m (by omega)
   rw [e5, e1, e2, pre] at e3
   split at e3
   ·rename_i hc; exact hc
   ·omega
  rw [if_pos h3]
  exact ih (m + 1) k (by omega) (by omega)
theorem ends_eq (a b : List S39) (hn : a.length ≤ 1000000) (hm : b.length ≤ 1000000) (k : Nat) (hk : a.length + a.length + 5 < k) : decoupageref29_Ends.f k a b = some ((pre a b : Int), (suf a b : Int)) := by
 have hp := suf_le a b
 unfold decoupageref29_Ends.f
 refine endsl0 a b _ (a.length + 3) (fun k hk => ?_) hn hm (pre a b) 0 k (by omega) (by omega)
 obtain ⟨k, rfl⟩ : ∃ m, k = m + 1 := ⟨k - 1, by omega⟩
 simp only [decoupageref29_Ends.j1]
 exact endsl1 a b hn hm (suf a b) 0 k (by omega) (by omega)
theorem rseen_eq (i : S39) (k : Nat) (hk : 3 ≤ k) : decoupageref27_Seen.f k i.f0 i.f1 i.f2.f0 i.f2.f1 i.f2.f2 i.f2.f3 i.f3.f0 i.f3.f1 i.f3.f2 i.f3.f3 i.f4.f0 i.f4.f1 i.f4.f2 i.f4.f3 i.f5 = some ((seen i).f0, (seen i).f1, (seen i).f2, (seen i).f3) := by
 unfold decoupageref27_Seen.f seen
 rw [rmeet_eq _ _ k hk]
 rfl
theorem take_step (l : List S39) (p m : Nat) (h : m < l.length) (h2 : p ≤ m) : ((l.take (m + 1)).drop p) = (l.take m).drop p ++ [l.getD m z39] := by
 rw [← List.take_append_getElem h, List.drop_append_of_le_length (by rw [List.length_take]; omega), List.getD_eq_getElem?_getD, List.getElem?_eq_getElem h]
 rfl
theorem rharml1 (a b : List S39) (p s : Nat) (pre_ : List S37) (hb : b.length ≤ 40) (hs : p + s ≤ b.length) (ha : pre_.length ≤ 40) : ∀ (d m : Nat), m + d = b.length - s → p ≤ m →
  Ev (fun k => decoupageref29_Of.l1 k b (s : Int) (pre_ ++ (((b.take m).drop p).map seen)) (m : Int)) (join (pre_ ++ (((b.take (b.length - s)).drop p).map seen))) := by
 have hw : wrap64 ((b.length : Int) - (s : Int)) = ((b.length - s : Nat) : Int) := by rw [w64 (by omega) (by omega)]; omega
 intro d
 induction d with
 | zero =>
  intro m hd hpm
  obtain rfl : m = b.length - s := by omega
  obtain ⟨K, hK⟩ := rjoin_eq (pre_ ++ (((b.take (b.length - s)).drop p).map seen)) (by simp; omega)
  dsimp only at hK
  refine ⟨K + 1, fun k hk => ?_⟩
  obtain ⟨k, rfl⟩ : ∃ m, k = m + 1 := ⟨k - 1, by omega⟩
  simp only [decoupageref29_Of.l1]
  rw [hw, if_neg (by omega), hK k (by omega)]
  rfl
 | succ d ih =>
  intro m hd hpm
  obtain ⟨K, hK⟩ := ih (m + 1) (by omega) (by omega)
  have e : wrap64 ((m : Int) + 1) = ((m + 1 : Nat) : Int) := by rw [w64 (by omega) (by omega)]; omega
  refine ⟨K + 5, fun k hk => ?_⟩
  obtain ⟨k, rfl⟩ : ∃ m, k = m + 1 := ⟨k - 1, by omega⟩
  simp only [decoupageref29_Of.l1]
  rw [hw, if_pos (by omega), if_pos (by omega), if_pos (by omega), rdi, rseen_eq _ k (by omega), e]
  simp only [Option.bind_some]
  rw [if_pos (by simp; omega)]
  have g := hK k (by omega)
  rw [take_step b p m (by omega) hpm, List.map_append, ← List.append_assoc] at g
  exact g
theorem rharml0 (a b : List S39) (p s : Nat) (ha : a.length ≤ 40) (hb : b.length ≤ 40) (hs : p + s ≤ a.length) (hs2 : p + s ≤ b.length) : ∀ (d m : Nat), m + d = a.length - s → p ≤ m →
  Ev (fun k => decoupageref29_Of.l0 k a b (p : Int) (s : Int) (((a.take m).drop p).map seen) (m : Int)) (join ((((a.take (a.length - s)).drop p).map seen) ++ (((b.take (b.length - s)).drop p).map seen))) := by
 have hw : wrap64 ((a.length : Int) - (s : Int)) = ((a.length - s : Nat) : Int) := by rw [w64 (by omega) (by omega)]; omega
 intro d
 induction d with
 | zero =>
  intro m hd hpm
  obtain rfl : m = a.length - s := by omega
  obtain ⟨K, hK⟩ := rharml1 a b p s (((a.take (a.length - s)).drop p).map seen) hb hs2 (by simp; omega) (b.length - s - p) p (by omega) (by omega)
  refine ⟨K + 1, fun k hk => ?_⟩
  obtain ⟨k, rfl⟩ : ∃ m, k = m + 1 := ⟨k - 1, by omega⟩
  simp only [decoupageref29_Of.l0]
  rw [hw, if_neg (by omega)]
  have g := hK k (by omega)
  have e : (b.take p).drop p = [] := by rw [List.drop_eq_nil_iff]; rw [List.length_take]; omega
  rw [e, List.map_nil, List.append_nil] at g
  exact g
 | succ d ih =>
  intro m hd hpm
  obtain ⟨K, hK⟩ := ih (m + 1) (by omega) (by omega)
  have e : wrap64 ((m : Int) + 1) = ((m + 1 : Nat) : Int) := by rw [w64 (by omega) (by omega)]; omega
  refine ⟨K + 5, fun k hk => ?_⟩
  obtain ⟨k, rfl⟩ : ∃ m, k = m + 1 := ⟨k - 1, by omega⟩
  simp only [decoupageref29_Of.l0]
  rw [hw, if_pos (by omega), if_pos (by omega), if_pos (by omega), rdi, rseen_eq _ k (by omega), e]
  simp only [Option.bind_some]
  rw [if_pos (by simp; omega)]
  have g := hK k (by omega)
  rw [take_step a p m (by omega) hpm, List.map_append] at g
  exact g
theorem rharm_eq (a b : List S39) (ha : a.length ≤ 40) (hb : b.length ≤ 40) : Ev (fun k => decoupageref29_Of.f k a b) (harm a b) := by
 have hp := suf_le a b
 obtain ⟨K, hK⟩ := rharml0 a b (pre a b) (suf a b) ha hb hp.1 hp.2 (a.length - suf a b - pre a b) (pre a b) (by omega) (by omega)
 refine ⟨K + 200, fun k hk => ?_⟩
 show decoupageref29_Of.f k a b = _
 unfold decoupageref29_Of.f
 rw [ends_eq a b (by omega) (by omega) k (by omega)]
 simp only [Option.bind_some]
 have g := hK k (by omega)
 have e : (a.take (pre a b)).drop (pre a b) = [] := by rw [List.drop_eq_nil_iff]; rw [List.length_take]; omega
 rw [e, List.map_nil] at g
 unfold harm
 rw [List.map_append, midA_cut, midB_cut]
 exact g

theorem sameitl (l2 : List S39) : ∀ (l1 : List S39) (k : Nat), l2.length < k → (l1 ++ l2).length ≤ 4611686018427387904 → decoupageref25_Same.l0 k (l1 ++ l2) (l1 ++ l2) ((l1 ++ l2).length : Int) (l1.length : Int) = some true := by
 induction l2 with
 | nil =>
  intro l1 k hk _
  obtain ⟨k, rfl⟩ : ∃ m, k = m + 1 := ⟨k - 1, by omega⟩
  simp only [decoupageref25_Same.l0]
  rw [if_neg (mid_ge _)]
 | cons x l2 ih =>
  intro l1 k hk hn
  obtain ⟨k, rfl⟩ : ∃ m, k = m + 1 := ⟨k - 1, by omega⟩
  simp only [List.length_cons] at hk
  simp only [decoupageref25_Same.l0]
  rw [if_pos (mid_lt _ _ _), if_pos (by omega), if_pos (mid_lt _ _ _), if_pos (mid_lt _ _ _), rdi_mid, mid_next l1 x l2 hn]
  rw [mid_app l1 x l2] at hn ⊢
  simp only [beq_self_eq_true, Bool.not_true, Bool.or_self, Bool.false_eq_true, if_false]
  exact ih (l1 ++ [x]) k (by omega) hn
theorem sameit_refl (l : List S39) (k : Nat) (hk : l.length < k) (hn : l.length ≤ 4611686018427387904) : decoupageref25_Same.f k l l = some true := by
 unfold decoupageref25_Same.f
 rw [if_pos rfl]
 exact sameitl l [] k hk hn

theorem HarmTells : ∀ (l0 : List S39) (l1 : List S39), (∀ x ∈ l0, Q39 x) → (∀ x ∈ l1, Q39 x) → ∃ k, decoupagelaw29_HarmTells.f k l0 l1 = some true := by
 intro a b _ _
 obtain ⟨KA, hA⟩ := awake_ev
 dsimp only at hA
 have hj : ∀ k, KA + 1 ≤ k → decoupagelaw29_HarmTells.j0 k a b true = some true := fun k hk => by
  obtain ⟨k, rfl⟩ : ∃ m, k = m + 1 := ⟨k - 1, by omega⟩
  simp only [decoupagelaw29_HarmTells.j0, if_true]
  rw [hA k (by omega)]
  rfl
 by_cases h1 : (a.length : Int) > 5
 ·refine ⟨KA + 1, ?_⟩
  unfold decoupagelaw29_HarmTells.f
  rw [hA _ (by omega)]
  simp only [Option.bind_some, if_true]
  rw [if_pos h1]
  exact hj _ (by omega)
 by_cases h2 : (b.length : Int) > 5
 ·refine ⟨KA + 1, ?_⟩
  unfold decoupagelaw29_HarmTells.f
  rw [hA _ (by omega)]
  simp only [Option.bind_some, if_true]
  rw [if_neg h1, decide_eq_true h2]
  exact hj _ (by omega)
 ·obtain ⟨K1, g1⟩ := harm_eq a b (by omega)
  obtain ⟨K2, g2⟩ := rharm_eq a b (by omega) (by omega)
  have n1 : (harm a b).length ≤ 40000 := by
   have h1 := midA_len a b
   have h2 := midA_len b a
   rw [← midB_eq] at h2
   exact join_len _ (by simp; omega)
  have hp := suf_le a b
  have m1 := midA_len a b
  have m2 := midA_len b a
  rw [← midB_eq] at m2
  dsimp only at g1 g2
  have w1 : wrap64 ((a.length : Int) - (suf a b : Int)) = ((a.length - suf a b : Nat) : Int) := by rw [w64 (by omega) (by omega)]; omega
  have w2 : wrap64 ((b.length : Int) - (suf a b : Int)) = ((b.length - suf a b : Nat) : Int) := by rw [w64 (by omega) (by omega)]; omega
  refine ⟨KA + K1 + K2 + 50000, ?_⟩
  unfold decoupagelaw29_HarmTells.f
  rw [hA _ (by omega)]
  simp only [Option.bind_some, if_true]
  rw [if_neg h1, decide_eq_false h2]
  simp only [decoupagelaw29_HarmTells.j0]
  rw [if_neg (by decide), ends_eq a b (by omega) (by omega) _ (by omega), parts_eq a b _ (by omega) (by omega) (by omega)]
  simp only [Option.bind_some]
  rw [g1 _ (by omega), g2 _ (by omega)]
  simp only [Option.bind_some]
  rw [same_refl _ _ (by omega) (by omega)]
  simp only [Option.bind_some, if_true]
  rw [w1, w2, if_pos (by omega), if_pos (by omega), if_pos (by omega), Int.toNat_natCast, Int.toNat_natCast, Int.toNat_natCast, ← midA_cut, sameit_refl _ _ (by omega) (by omega)]
  simp only [Option.bind_some, if_true]
  rw [if_pos (by omega), if_pos (by omega), ← midB_cut, sameit_refl _ _ (by omega) (by omega)]
  rfl

end Go.Proofs.Ytppklhfiajjhmaa.Pure
