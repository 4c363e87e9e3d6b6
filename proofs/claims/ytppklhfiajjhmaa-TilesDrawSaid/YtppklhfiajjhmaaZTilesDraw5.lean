/- What is proved: texts of the law TilesDraw, joined by program. Conditions: none but those in each statement. -/
import Derived.Test.YtppklhfiajjhmaaZTilesDraw4
import Derived.Test.YtppklhfiajjhmaaZTilesDraw1
import Derived.Test.YtppklhfiajjhmaaZTilesDraw0
section
namespace Go.Proofs.Ytppklhfiajjhmaa.Pure
open Go.RowKit Go.Proofs.Ytppklhfiajjhmaa.PPT Go.Proofs.YtppklhfiajjhmaaW.PrintWords Go.Proofs.YtppklhfiajjhmaaW.PrintLast
set_option linter.unusedSimpArgs false
set_option linter.unusedVariables false
open Go.Proofs.Ytppklhfiajjhmaa.Opens
def emp (r : S37) : Prop := r.f0 ≥ r.f2 ∨ r.f1 ≥ r.f3
instance (r : S37) : Decidable (emp r) := by unfold emp; exact inferInstance
def has (r : S37) (x y : Int) : Prop := r.f0 ≤ x ∧ x < r.f2 ∧ r.f1 ≤ y ∧ y < r.f3
instance (r : S37) (x y : Int) : Decidable (has r x y) := by unfold has; exact inferInstance
theorem holds_eq (r : S37) (x y : Int) : rect_Holds.f r.f0 r.f1 r.f2 r.f3 x y = some (decide (has r x y)) := by
 unfold rect_Holds.f has
 by_cases h1 : x ≥ r.f0
 ·by_cases h2 : x < r.f2
  ·by_cases h3 : y ≥ r.f1
   ·rw [if_pos h1, if_pos h2, if_pos h3]; simp [h1, h2, h3]
   ·rw [if_pos h1, if_pos h2, if_neg h3]; simp [h3]
  ·rw [if_pos h1, if_neg h2]; simp [h2]
 ·rw [if_neg h1]; simp [h1]
theorem rholds_eq (r : S37) (x y : Int) : decoupageref02_Holds.f r.f0 r.f1 r.f2 r.f3 x y = some (decide (has r x y)) := by
 unfold decoupageref02_Holds.f has
 by_cases h1 : r.f0 ≤ x
 ·by_cases h2 : x < r.f2
  ·by_cases h3 : r.f1 ≤ y
   ·rw [if_pos h1, if_pos h2, if_pos h3]; simp [h1, h2, h3]
   ·rw [if_pos h1, if_pos h2, if_neg h3]; simp [h3]
  ·rw [if_pos h1, if_neg h2]; simp [h2]
 ·rw [if_neg h1]; simp [h1]
theorem empty_eq (r : S37) : rect_Empty.f r.f0 r.f1 r.f2 r.f3 = some (decide (emp r)) := by
 unfold rect_Empty.f emp
 by_cases h : r.f0 ≥ r.f2
 ·rw [if_pos h]; simp [h]
 ·rw [if_neg h]; simp [h]
def meet (a b : S37) : S37 :=
 if emp ⟨mx a.f0 b.f0, mx a.f1 b.f1, mn a.f2 b.f2, mn a.f3 b.f3⟩ then ⟨0, 0, 0, 0⟩ else ⟨mx a.f0 b.f0, mx a.f1 b.f1, mn a.f2 b.f2, mn a.f3 b.f3⟩
theorem meet_eq (a b : S37) : rect_Meet.f a.f0 a.f1 a.f2 a.f3 b.f0 b.f1 b.f2 b.f3 = some ((meet a b).f0, (meet a b).f1, (meet a b).f2, (meet a b).f3) := by
 unfold rect_Meet.f meet
 have h := empty_eq ⟨mx a.f0 b.f0, mx a.f1 b.f1, mn a.f2 b.f2, mn a.f3 b.f3⟩
 rw [h]
 simp only [Option.bind_some]
 by_cases h1 : emp ⟨mx a.f0 b.f0, mx a.f1 b.f1, mn a.f2 b.f2, mn a.f3 b.f3⟩
 ·simp [h1]
 ·simp [h1]
theorem mx_or (a b : Int) : mx a b = a ∧ b ≤ a ∨ mx a b = b ∧ a ≤ b := by unfold mx; split <;> omega
theorem mn_or (a b : Int) : mn a b = a ∧ a ≤ b ∨ mn a b = b ∧ b ≤ a := by unfold mn; split <;> omega
theorem has_meet (a b : S37) (x y : Int) : has (meet a b) x y ↔ has a x y ∧ has b x y := by
 unfold meet
 have e0 := mx_or a.f0 b.f0; have e1 := mx_or a.f1 b.f1; have e2 := mn_or a.f2 b.f2; have e3 := mn_or a.f3 b.f3
 split
 ·rename_i h; unfold emp at h; unfold has; simp only at h ⊢; omega
 ·rename_i h; unfold emp at h; unfold has; simp only at h ⊢; omega
theorem w64 {n : Int} (h1 : -9223372036854775808 ≤ n) (h2 : n ≤ 9223372036854775807) : wrap64 n = n := by unfold wrap64; omega
theorem mid_lt {α : Type} (l1 : List α) (x : α) (l2 : List α) : ((l1.length : Int) < ((l1 ++ x :: l2).length : Int)) := by simp; omega
theorem mid_ge {α : Type} (l1 : List α) : ¬ ((l1.length : Int) < ((l1 ++ []).length : Int)) := by simp
theorem mid_next {α : Type} (l1 : List α) (x : α) (l2 : List α) (h : (l1 ++ x :: l2).length ≤ 4611686018427387904) : wrap64 ((l1.length : Int) + 1) = ((l1 ++ [x]).length : Int) := by
 simp at h ⊢
 rw [w64 (by omega) (by omega)]
theorem mid_app {α : Type} (l1 : List α) (x : α) (l2 : List α) : l1 ++ x :: l2 = (l1 ++ [x]) ++ l2 := by simp
theorem rd_mid (l1 : List S37) (x : S37) (l2 : List S37) : rd_T37 (l1 ++ x :: l2) (l1.length : Int) = x := by
 unfold rd_T37
 simp
def ne (r : S37) : Bool := !decide (emp r)
def cm (a b : S37) : S37 := if emp (meet a b) then ⟨a.f0, a.f3, a.f2, a.f3⟩ else meet a b
def pcs (a m : S37) : List S37 := [⟨a.f0, a.f1, a.f2, m.f1⟩, ⟨a.f0, m.f3, a.f2, a.f3⟩, ⟨a.f0, m.f1, m.f0, m.f3⟩, ⟨m.f2, m.f1, a.f2, m.f3⟩]
def cut (a b : S37) : List S37 := (pcs a (cm a b)).filter ne
theorem cutl (l2 : List S37) : ∀ (l1 acc : List S37) (k : Nat), l2.length < k → acc.length + l2.length < 4398046511104 → (l1 ++ l2).length ≤ 4611686018427387904 →
  rect_Cut.l0 k acc (l1 ++ l2) ((l1 ++ l2).length : Int) (l1.length : Int) = some (acc ++ l2.filter ne) := by
 induction l2 with
 | nil =>
  intro l1 acc k hk _ _
  obtain ⟨k, rfl⟩ : ∃ m, k = m + 1 := ⟨k - 1, by omega⟩
  simp only [rect_Cut.l0]
  rw [if_neg (mid_ge _)]
  simp
 | cons x l2 ih =>
  intro l1 acc k hk ha hn
  obtain ⟨k, rfl⟩ : ∃ m, k = m + 1 := ⟨k - 1, by omega⟩
  simp only [List.length_cons] at hk ha
  simp only [rect_Cut.l0]
  rw [if_pos (mid_lt _ _ _), if_pos (by omega), if_pos (mid_lt _ _ _), rd_mid, empty_eq, mid_next l1 x l2 hn]
  simp only [Option.bind_some]
  rw [mid_app] at hn ⊢
  by_cases he : emp x
  ·rw [if_pos (by simpa using he), ih (l1 ++ [x]) acc k (by omega) (by omega) hn]
   simp [ne, he]
  ·rw [if_neg (by simpa using he), if_pos (by omega), ih (l1 ++ [x]) (acc ++ [x]) k (by omega) (by simp; omega) hn]
   simp [ne, he]
theorem cut_eq (a b : S37) (k : Nat) (hk : 6 ≤ k) : rect_Cut.f k a.f0 a.f1 a.f2 a.f3 b.f0 b.f1 b.f2 b.f3 = some (cut a b) := by
 obtain ⟨k, rfl⟩ : ∃ m, k = m + 1 := ⟨k - 1, by omega⟩
 have hj : ∀ m : S37, rect_Cut.j0 (k + 1) a.f0 a.f1 a.f2 a.f3 m.f0 m.f1 m.f2 m.f3 = some ((pcs a m).filter ne) := fun m => by
  simp only [rect_Cut.j0, Option.bind_some]
  have := cutl (pcs a m) [] [] k (by simp [pcs]; omega) (by simp [pcs]) (by simp [pcs])
  simpa [pcs] using this
 unfold rect_Cut.f
 rw [meet_eq]
 simp only [Option.bind_some]
 rw [empty_eq (meet a b)]
 simp only [Option.bind_some]
 unfold cut cm
 by_cases h : emp (meet a b)
 ·rw [if_pos (by simpa using h), if_pos h]
  exact hj ⟨a.f0, a.f3, a.f2, a.f3⟩
 ·rw [if_neg (by simpa using h), if_neg h]
  exact hj (meet a b)
def cnt (l : List S37) (x y : Int) : Nat := l.countP fun r => decide (has r x y)
theorem cnt_filter (l : List S37) (x y : Int) : cnt (l.filter ne) x y = cnt l x y := by
 unfold cnt
 rw [List.countP_filter]
 apply List.countP_congr
 intro r _
 have : has r x y → ¬ emp r := by unfold has emp; omega
 simp only [Bool.and_eq_true, decide_eq_true_eq, ne, Bool.not_eq_true', decide_eq_false_iff_not]
 exact ⟨fun h => h.1, fun h => ⟨h, this h⟩⟩
theorem cm_cases (a b : S37) : (cm a b = ⟨a.f0, a.f3, a.f2, a.f3⟩ ∧ ∀ x y, has a x y → ¬ has b x y) ∨
  (a.f0 ≤ (cm a b).f0 ∧ (cm a b).f0 < (cm a b).f2 ∧ (cm a b).f2 ≤ a.f2 ∧ a.f1 ≤ (cm a b).f1 ∧ (cm a b).f1 < (cm a b).f3 ∧ (cm a b).f3 ≤ a.f3 ∧ ∀ x y, has (cm a b) x y ↔ has a x y ∧ has b x y) := by
 unfold cm
 by_cases h : emp (meet a b)
 ·rw [if_pos h]
  left
  refine ⟨rfl, fun x y h1 h2 => ?_⟩
  have h3 := (has_meet a b x y).2 ⟨h1, h2⟩
  unfold has at h3
  unfold emp at h
  omega
 ·rw [if_neg h]
  right
  have hm := has_meet a b
  unfold emp at h
  have e0 := mx_or a.f0 b.f0; have e1 := mx_or a.f1 b.f1; have e2 := mn_or a.f2 b.f2; have e3 := mn_or a.f3 b.f3
  refine ⟨?_, by omega, ?_, ?_, by omega, ?_, hm⟩
  all_goals
   revert h
   unfold meet
   split
   ·simp
   ·simp only; omega
theorem cnt_pcs (a m : S37) (x y : Int) : cnt (pcs a m) x y =
  (if has ⟨a.f0, a.f1, a.f2, m.f1⟩ x y then 1 else 0) + (if has ⟨a.f0, m.f3, a.f2, a.f3⟩ x y then 1 else 0) +
  (if has ⟨a.f0, m.f1, m.f0, m.f3⟩ x y then 1 else 0) + (if has ⟨m.f2, m.f1, a.f2, m.f3⟩ x y then 1 else 0) := by
 unfold cnt pcs
 simp only [List.countP_cons, List.countP_nil, decide_eq_true_eq]
 omega
theorem cnt_cut (a b : S37) (x y : Int) : cnt (cut a b) x y = if has a x y ∧ ¬ has b x y then 1 else 0 := by
 unfold cut
 rw [cnt_filter, cnt_pcs]
 rcases cm_cases a b with ⟨e, h⟩ | ⟨h0, h1, h2, h3, h4, h5, h6⟩
 ·rw [e]
  have h' := h x y
  by_cases hb : has b x y
  ·have ha : ¬ has a x y := fun ha => h' ha hb
   simp only [ha, false_and, if_false]
   (repeat' split) <;> simp only [has] at * <;> omega
  ·simp only [hb, not_false_eq_true, and_true]
   clear h h' hb e
   (repeat' split) <;> simp only [has] at * <;> omega
 ·have h' := h6 x y
  clear h6
  by_cases ha : has a x y
  ·by_cases hb : has b x y
   ·have hm := h'.2 ⟨ha, hb⟩
    simp only [hb, not_true, and_false, if_false]
    clear h' ha hb
    (repeat' split) <;> simp only [has] at * <;> omega
   ·have hm : ¬ has (cm a b) x y := fun hm => hb (h'.1 hm).2
    simp only [ha, hb, not_false_eq_true, and_true, if_true]
    clear h' hb
    (repeat' split) <;> simp only [has] at * <;> omega
  ·simp only [ha, false_and, if_false]
   clear h'
   (repeat' split) <;> simp only [has] at * <;> omega
def inl (l : List S37) (x y : Int) : Prop := ∃ q ∈ l, has q x y
theorem inl_nil (x y : Int) : ¬ inl [] x y := by rintro ⟨q, h, _⟩; simp at h
theorem inl_cons (q : S37) (l : List S37) (x y : Int) : inl (q :: l) x y ↔ has q x y ∨ inl l x y := by
 unfold inl; simp
theorem inl_app (l m : List S37) (x y : Int) : inl (l ++ m) x y ↔ inl l x y ∨ inl m x y := by
 unfold inl
 constructor
 ·rintro ⟨q, h, h2⟩
  rcases List.mem_append.1 h with h | h
  ·exact .inl ⟨q, h, h2⟩
  ·exact .inr ⟨q, h, h2⟩
 ·rintro (⟨q, h, h2⟩ | ⟨q, h, h2⟩)
  ·exact ⟨q, List.mem_append_left _ h, h2⟩
  ·exact ⟨q, List.mem_append_right _ h, h2⟩
instance (l : List S37) (x y : Int) : Decidable (inl l x y) := by unfold inl; exact inferInstance
theorem inl_cnt (l : List S37) (x y : Int) : inl l x y ↔ 1 ≤ cnt l x y := by
 unfold inl cnt
 rw [Nat.succ_le_iff, List.countP_pos_iff]
 simp
theorem cnt_app (l m : List S37) (x y : Int) : cnt (l ++ m) x y = cnt l x y + cnt m x y := List.countP_append
theorem cnt_cons (q : S37) (l : List S37) (x y : Int) : cnt (q :: l) x y = cnt l x y + if has q x y then 1 else 0 := by
 unfold cnt; rw [List.countP_cons]; simp
def cuts (left : List S37) (q : S37) : List S37 := left.flatMap fun y => cut y q
theorem cnt_cuts (left : List S37) (q : S37) (x y : Int) : cnt (cuts left q) x y = if has q x y then 0 else cnt left x y := by
 unfold cuts
 induction left with
 | nil => simp [cnt]
 | cons a left ih =>
  rw [List.flatMap_cons, cnt_app, ih, cnt_cut, cnt_cons]
  by_cases h1 : has q x y <;> by_cases h2 : has a x y <;> simp [h1, h2] <;> omega
def rest (r : S37) (l : List S37) : List S37 := l.foldl cuts (if emp r then [] else [r])
theorem cnt_fold (l : List S37) (x y : Int) : ∀ left, cnt (l.foldl cuts left) x y = if inl l x y then 0 else cnt left x y := by
 induction l with
 | nil => intro left; simp [inl_nil]
 | cons q l ih =>
  intro left
  rw [List.foldl_cons, ih, cnt_cuts]
  by_cases h1 : has q x y <;> by_cases h2 : inl l x y <;> simp [h1, h2, inl_cons]
theorem cnt_rest (r : S37) (l : List S37) (x y : Int) : cnt (rest r l) x y = if has r x y ∧ ¬ inl l x y then 1 else 0 := by
 unfold rest
 rw [cnt_fold]
 by_cases h0 : emp r
 ·have h1 : ¬ has r x y := by unfold emp at h0; unfold has; omega
  simp [h0, h1, cnt]
 ·by_cases h1 : has r x y <;> by_cases h2 : inl l x y <;> simp [h0, h1, h2, cnt]
theorem ne_cut (a b : S37) : ∀ q ∈ cut a b, ¬ emp q := by
 intro q hq
 unfold cut at hq
 have := (List.mem_filter.1 hq).2
 simpa [ne] using this
theorem ne_fold (l : List S37) : ∀ left : List S37, (∀ q ∈ left, ¬ emp q) → ∀ q ∈ l.foldl cuts left, ¬ emp q := by
 induction l with
 | nil => intro left h; exact h
 | cons b l ih =>
  intro left h
  rw [List.foldl_cons]
  refine ih _ fun q hq => ?_
  unfold cuts at hq
  obtain ⟨a, _, ha⟩ := List.mem_flatMap.1 hq
  exact ne_cut a b q ha
theorem ne_rest (r : S37) (l : List S37) : ∀ q ∈ rest r l, ¬ emp q := by
 refine ne_fold l _ fun q hq => ?_
 by_cases h : emp r
 ·simp [h] at hq
 ·simp [h] at hq; subst hq; exact h
theorem has_corner {q : S37} (h : ¬ emp q) : has q q.f0 q.f1 := by unfold emp at h; unfold has; omega
theorem restl1 (q : S37) (L : List S37) (n i : Int) (r : List S37) (l2 : List S37) : ∀ (l1 acc : List S37), (l1 ++ l2).length ≤ 4611686018427387904 → acc.length + (cuts l2 q).length < 4398046511104 →
  Ev (fun k => cover_Rest.l0 k (acc ++ cuts l2 q) L n (wrap64 (i + 1))) r → Ev (fun k => cover_Rest.l1 k acc L n i (l1 ++ l2) ((l1 ++ l2).length : Int) (l1.length : Int) q.f0 q.f1 q.f2 q.f3) r := by
 induction l2 with
 | nil =>
  rintro l1 acc hn hb ⟨K, hK⟩
  refine ⟨K + 1, fun k hk => ?_⟩
  obtain ⟨k, rfl⟩ : ∃ m, k = m + 1 := ⟨k - 1, by omega⟩
  simp only [cover_Rest.l1]
  rw [if_neg (mid_ge _)]
  have := hK k (by omega)
  simpa [cuts] using this
 | cons a l2 ih =>
  intro l1 acc hn hb hE
  have hb2 : acc.length + ((cut a q).length + (cuts l2 q).length) < 4398046511104 := by
   unfold cuts at hb ⊢
   rw [List.flatMap_cons, List.length_append] at hb
   exact hb
  obtain ⟨K, hK⟩ := ih (l1 ++ [a]) (acc ++ cut a q) (by rw [← mid_app]; exact hn) (by rw [List.length_append]; omega) (by
   have e : acc ++ cut a q ++ cuts l2 q = acc ++ cuts (a :: l2) q := by unfold cuts; rw [List.flatMap_cons, List.append_assoc]
   rw [e]; exact hE)
  refine ⟨K + 7, fun k hk => ?_⟩
  obtain ⟨k, rfl⟩ : ∃ m, k = m + 1 := ⟨k - 1, by omega⟩
  simp only [cover_Rest.l1]
  rw [if_pos (mid_lt _ _ _), if_pos (by omega), if_pos (mid_lt _ _ _), rd_mid, mid_next l1 a l2 hn, cut_eq a q k (by omega)]
  simp only [Option.bind_some]
  rw [if_pos (by omega), mid_app]
  exact hK k (by omega)
theorem restl0 (l2 : List S37) : ∀ (l1 left : List S37), (l1 ++ l2).length ≤ 4611686018427387904 → (∀ i, i ≤ l2.length → ((l2.take i).foldl cuts left).length < 4398046511104) →
  Ev (fun k => cover_Rest.l0 k left (l1 ++ l2) ((l1 ++ l2).length : Int) (l1.length : Int)) (l2.foldl cuts left) := by
 induction l2 with
 | nil =>
  intro l1 left hn _
  refine ⟨1, fun k hk => ?_⟩
  obtain ⟨k, rfl⟩ : ∃ m, k = m + 1 := ⟨k - 1, by omega⟩
  simp only [cover_Rest.l0]
  rw [if_neg (mid_ge _)]
  rfl
 | cons q l2 ih =>
  intro l1 left hn hb
  have hn2 : ((l1 ++ [q]) ++ l2).length ≤ 4611686018427387904 := by rw [← mid_app]; exact hn
  have ih2 := ih (l1 ++ [q]) (cuts left q) hn2 (fun i hi => by
   have := hb (i + 1) (by simp; omega)
   simpa using this)
  have h0 := hb 0 (by simp)
  have h1 := hb 1 (by simp)
  simp only [List.take_zero, List.foldl_nil] at h0
  simp only [List.take_succ_cons, List.take_zero, List.foldl_cons, List.foldl_nil] at h1
  obtain ⟨K, hK⟩ := restl1 q (l1 ++ q :: l2) ((l1 ++ q :: l2).length : Int) (l1.length : Int) (l2.foldl cuts (cuts left q)) left [] [] (by simp; omega) (by simpa using h1) (by
   rw [mid_next l1 q l2 hn, List.nil_append, mid_app]
   exact ih2)
  refine ⟨K + 1, fun k hk => ?_⟩
  obtain ⟨k, rfl⟩ : ∃ m, k = m + 1 := ⟨k - 1, by omega⟩
  simp only [cover_Rest.l0]
  rw [if_pos (mid_lt _ _ _), if_pos (by omega), if_pos (mid_lt _ _ _), rd_mid]
  exact hK k (by omega)
theorem rest_eq (r : S37) (l : List S37) (hn : l.length ≤ 4611686018427387904) (hb : ∀ i, i ≤ l.length → (rest r (l.take i)).length < 4398046511104) :
  Ev (fun k => cover_Rest.f k r.f0 r.f1 r.f2 r.f3 l) (rest r l) := by
 obtain ⟨K, hK⟩ := restl0 l [] (if emp r then [] else [r]) (by simpa using hn) hb
 refine ⟨K + 1, fun k hk => ?_⟩
 obtain ⟨k, rfl⟩ : ∃ m, k = m + 1 := ⟨k - 1, by omega⟩
 have := hK k (by omega)
 unfold cover_Rest.f
 rw [empty_eq]
 simp only [Option.bind_some, cover_Rest.j0]
 by_cases h : emp r
 ·rw [if_pos (by simpa using h)]
  rw [if_pos h] at this
  rw [rest, if_pos h]
  exact this
 ·rw [if_neg (by simpa using h), if_pos (by simp)]
  rw [if_neg h] at this
  rw [rest, if_neg h]
  exact this
theorem rd_mid_i (l1 : List Int) (x : Int) (l2 : List Int) : rd (l1 ++ x :: l2) (l1.length : Int) = x := by unfold rd; simp
def join (l : List S37) : List S37 := l.foldl (fun out r => out ++ rest r out) []
theorem join_snoc (l : List S37) (r : S37) : join (l ++ [r]) = join l ++ rest r (join l) := by unfold join; rw [List.foldl_append]; rfl
theorem snoc_ind {α : Type} {P : List α → Prop} (h0 : P []) (hs : ∀ l x, P l → P (l ++ [x])) (l : List α) : P l := by
 have key : ∀ n (l : List α), l.length = n → P l := by
  intro n
  induction n with
  | zero => intro l h; rw [List.length_eq_zero_iff.1 h]; exact h0
  | succ n ih =>
   intro l h
   have hne : l ≠ [] := by rintro rfl; simp at h
   rw [← List.dropLast_concat_getLast hne]
   exact hs _ _ (ih _ (by rw [List.length_dropLast]; omega))
 exact key l.length l rfl
theorem cnt_join (l : List S37) (x y : Int) : cnt (join l) x y = if inl l x y then 1 else 0 := by
 induction l using snoc_ind with
 | h0 => simp [join, cnt, inl_nil]
 | hs l r ih =>
  rw [join_snoc, cnt_app, cnt_rest, ih]
  have h1 : inl (join l) x y ↔ inl l x y := by
   rw [inl_cnt, ih]
   by_cases h : inl l x y <;> simp [h]
  have h2 : inl (l ++ [r]) x y ↔ inl l x y ∨ has r x y := by
   rw [inl_app, inl_cons]
   simp [inl_nil]
  simp only [h1, h2]
  by_cases g1 : inl l x y <;> by_cases g2 : has r x y <;> simp [g1, g2]
theorem ne_join (l : List S37) : ∀ q ∈ join l, ¬ emp q := by
 induction l using snoc_ind with
 | h0 => intro q hq; simp [join] at hq
 | hs l r ih =>
  intro q hq
  rw [join_snoc, List.mem_append] at hq
  rcases hq with hq | hq
  ·exact ih q hq
  ·exact ne_rest _ _ q hq
def inXY (X Y : List Int) (q : S37) : Prop := (q.f0 ∈ X ∧ q.f2 ∈ X) ∧ q.f1 ∈ Y ∧ q.f3 ∈ Y
theorem inXY_cut {X Y : List Int} {a b : S37} (ha : inXY X Y a) (hb : inXY X Y b) : ∀ q ∈ cut a b, inXY X Y q := by
 intro q hq
 unfold cut at hq
 have hq := (List.mem_filter.1 hq).1
 obtain ⟨⟨a0, a2⟩, a1, a3⟩ := ha
 obtain ⟨⟨b0, b2⟩, b1, b3⟩ := hb
 have hm : inXY X Y (cm a b) := by
  unfold cm
  split
  ·exact ⟨⟨a0, a2⟩, a3, a3⟩
  ·rename_i h
   have e0 := mx_or a.f0 b.f0; have e1 := mx_or a.f1 b.f1; have e2 := mn_or a.f2 b.f2; have e3 := mn_or a.f3 b.f3
   unfold meet at h ⊢
   split
   ·rename_i h2; rw [if_pos h2] at h; exfalso; apply h; unfold emp; simp
   ·refine ⟨⟨?_, ?_⟩, ?_, ?_⟩
    ·show mx a.f0 b.f0 ∈ X; rcases e0 with ⟨e, _⟩ | ⟨e, _⟩ <;> rw [e] <;> assumption
    ·show mn a.f2 b.f2 ∈ X; rcases e2 with ⟨e, _⟩ | ⟨e, _⟩ <;> rw [e] <;> assumption
    ·show mx a.f1 b.f1 ∈ Y; rcases e1 with ⟨e, _⟩ | ⟨e, _⟩ <;> rw [e] <;> assumption
    ·show mn a.f3 b.f3 ∈ Y; rcases e3 with ⟨e, _⟩ | ⟨e, _⟩ <;> rw [e] <;> assumption
 obtain ⟨⟨m0, m2⟩, m1, m3⟩ := hm
 unfold pcs at hq
 simp only [List.mem_cons, List.not_mem_nil, or_false] at hq
 rcases hq with rfl | rfl | rfl | rfl
 ·exact ⟨⟨a0, a2⟩, a1, m1⟩
 ·exact ⟨⟨a0, a2⟩, m3, a3⟩
 ·exact ⟨⟨a0, m0⟩, m1, m3⟩
 ·exact ⟨⟨m2, a2⟩, m1, m3⟩
theorem inXY_fold {X Y : List Int} (l : List S37) (hl : ∀ q ∈ l, inXY X Y q) : ∀ left : List S37, (∀ q ∈ left, inXY X Y q) → ∀ q ∈ l.foldl cuts left, inXY X Y q := by
 induction l with
 | nil => intro left h; exact h
 | cons b l ih =>
  intro left h
  rw [List.foldl_cons]
  refine ih (fun q hq => hl q (by simp [hq])) _ fun q hq => ?_
  unfold cuts at hq
  obtain ⟨a, ha, hqa⟩ := List.mem_flatMap.1 hq
  exact inXY_cut (h a ha) (hl b (by simp)) q hqa
theorem inXY_rest {X Y : List Int} (r : S37) (l : List S37) (hr : inXY X Y r) (hl : ∀ q ∈ l, inXY X Y q) : ∀ q ∈ rest r l, inXY X Y q := by
 refine inXY_fold l hl _ fun q hq => ?_
 by_cases h : emp r
 ·simp [h] at hq
 ·simp [h] at hq; subst hq; exact hr
theorem inXY_join {X Y : List Int} (l : List S37) (hl : ∀ q ∈ l, inXY X Y q) : ∀ q ∈ join l, inXY X Y q := by
 induction l using snoc_ind with
 | h0 => intro q hq; simp [join] at hq
 | hs l r ih =>
  have h1 := ih fun q hq => hl q (by simp [hq])
  intro q hq
  rw [join_snoc, List.mem_append] at hq
  rcases hq with hq | hq
  ·exact h1 q hq
  ·exact inXY_rest r _ (hl r (by simp)) h1 q hq
theorem pigeon (G : List (Int × Int)) (l : List S37) (h1 : ∀ x y, cnt l x y ≤ 1) (h2 : ∀ q ∈ l, ¬ emp q ∧ (q.f0, q.f1) ∈ G) : l.length ≤ G.length := by
 have k1 : ∀ G : List (Int × Int), (G.map fun p => cnt l p.1 p.2).sum ≤ G.length := by
  intro G
  induction G with
  | nil => simp
  | cons p G ih => simp only [List.map_cons, List.sum_cons, List.length_cons]; have := h1 p.1 p.2; omega
 have k2 : ∀ (l : List S37), (∀ q ∈ l, ¬ emp q ∧ (q.f0, q.f1) ∈ G) → l.length ≤ (G.map fun p => cnt l p.1 p.2).sum := by
  intro l
  induction l with
  | nil => simp
  | cons q l ih =>
   intro h
   have hh := ih fun q hq => h q (by simp [hq])
   obtain ⟨g1, g2⟩ := h q (by simp)
   have k3 : ∀ G : List (Int × Int), (q.f0, q.f1) ∈ G → (G.map fun p => cnt l p.1 p.2).sum + 1 ≤ (G.map fun p => cnt (q :: l) p.1 p.2).sum := by
    intro G
    induction G with
    | nil => intro h; simp at h
    | cons p G ih2 =>
     intro hm
     simp only [List.map_cons, List.sum_cons]
     have e := cnt_cons q l p.1 p.2
     have k4 : (G.map fun p => cnt l p.1 p.2).sum ≤ (G.map fun p => cnt (q :: l) p.1 p.2).sum := by
      clear ih2 hm
      induction G with
      | nil => simp
      | cons p G ih3 => simp only [List.map_cons, List.sum_cons]; have := cnt_cons q l p.1 p.2; omega
     rcases List.mem_cons.1 hm with hm | hm
     ·subst hm
      rw [if_pos (has_corner g1)] at e
      omega
     ·have := ih2 hm
      omega
   have := k3 G g2
   simp only [List.length_cons]
   omega
 exact Nat.le_trans (k2 l h2) (k1 G)
def ex (l : List S37) : List Int := l.flatMap fun q => [q.f0, q.f2]
def ey (l : List S37) : List Int := l.flatMap fun q => [q.f1, q.f3]
theorem ex_len (l : List S37) : (ex l).length = 2 * l.length := by induction l with | nil => rfl | cons a l ih => unfold ex at ih ⊢; rw [List.flatMap_cons, List.length_append, ih]; simp; omega
theorem ey_len (l : List S37) : (ey l).length = 2 * l.length := by induction l with | nil => rfl | cons a l ih => unfold ey at ih ⊢; rw [List.flatMap_cons, List.length_append, ih]; simp; omega
theorem inXY_self (l : List S37) : ∀ q ∈ l, inXY (ex l) (ey l) q := by
 intro q hq
 unfold inXY ex ey
 simp only [List.mem_flatMap]
 exact ⟨⟨⟨q, hq, by simp⟩, ⟨q, hq, by simp⟩⟩, ⟨q, hq, by simp⟩, ⟨q, hq, by simp⟩⟩
theorem few_of {X Y : List Int} (l : List S37) (h1 : ∀ x y, cnt l x y ≤ 1) (h2 : ∀ q ∈ l, ¬ emp q) (h3 : ∀ q ∈ l, inXY X Y q) : l.length ≤ X.length * Y.length := by
 have := pigeon (X.flatMap fun x => Y.map fun y => (x, y)) l h1 fun q hq => ⟨h2 q hq, by
  obtain ⟨⟨g0, _⟩, g1, _⟩ := h3 q hq
  rw [List.mem_flatMap]
  exact ⟨_, g0, List.mem_map.2 ⟨_, g1, rfl⟩⟩⟩
 have e : (X.flatMap fun x => Y.map fun y => (x, y)).length = X.length * Y.length := by
  rw [List.length_flatMap]
  clear h3 this
  induction X with
  | nil => simp
  | cons a X ih => simp only [List.map_cons, List.sum_cons, List.length_map, List.length_cons, Nat.succ_mul] at ih ⊢; omega
 omega
theorem join_len (l : List S37) (h : l.length ≤ 100) : (join l).length ≤ 40000 := by
 have := few_of (join l) (fun x y => by rw [cnt_join]; split <;> omega) (ne_join l) (inXY_join l (inXY_self l))
 have e1 := ex_len l; have e2 := ey_len l
 have : (ex l).length * (ey l).length ≤ 200 * 200 := Nat.mul_le_mul (by omega) (by omega)
 omega
theorem rest_join_len (l : List S37) (r : S37) (h : l.length < 100) (i : Nat) : (rest r ((join l).take i)).length ≤ 40000 := by
 have hX : ∀ q ∈ l ++ [r], inXY (ex (l ++ [r])) (ey (l ++ [r])) q := inXY_self _
 have hj : ∀ q ∈ (join l).take i, inXY (ex (l ++ [r])) (ey (l ++ [r])) q := fun q hq => inXY_join l (fun q hq => hX q (by simp [hq])) q (List.mem_of_mem_take hq)
 have := few_of (rest r ((join l).take i)) (fun x y => by rw [cnt_rest]; split <;> omega) (ne_rest _ _) (inXY_rest r _ (hX r (by simp)) hj)
 have e1 := ex_len (l ++ [r]); have e2 := ey_len (l ++ [r])
 rw [List.length_append, List.length_singleton] at e1 e2
 have : (ex (l ++ [r])).length * (ey (l ++ [r])).length ≤ 200 * 200 := Nat.mul_le_mul (by omega) (by omega)
 omega
theorem joinl (l2 : List S37) : ∀ (l1 : List S37), (l1 ++ l2).length ≤ 90 →
  Ev (fun k => cover_Join.l0 k (join l1) (l1 ++ l2) ((l1 ++ l2).length : Int) (l1.length : Int)) (join (l1 ++ l2)) := by
 induction l2 with
 | nil =>
  intro l1 hn
  refine ⟨1, fun k hk => ?_⟩
  obtain ⟨k, rfl⟩ : ∃ m, k = m + 1 := ⟨k - 1, by omega⟩
  simp only [cover_Join.l0]
  rw [if_neg (mid_ge _), List.append_nil]
 | cons q l2 ih =>
  intro l1 hn
  obtain ⟨K, hK⟩ := ih (l1 ++ [q]) (by rw [← mid_app]; exact hn)
  have hl : l1.length < 90 := by simp at hn; omega
  have hj := join_len l1 (by omega)
  obtain ⟨K2, h2⟩ := rest_eq q (join l1) (by omega) (fun i _ => by have := rest_join_len l1 q (by omega) i; omega)
  have hr := rest_join_len l1 q (by omega) (join l1).length
  rw [List.take_length] at hr
  dsimp only at hK h2
  refine ⟨K + K2 + 1, fun k hk => ?_⟩
  obtain ⟨k, rfl⟩ : ∃ m, k = m + 1 := ⟨k - 1, by omega⟩
  simp only [cover_Join.l0]
  rw [if_pos (mid_lt _ _ _), if_pos (by omega), if_pos (mid_lt _ _ _), rd_mid, mid_next l1 q l2 (by omega), h2 k (by omega)]
  simp only [Option.bind_some]
  rw [if_pos (by omega), ← join_snoc, mid_app l1 q l2]
  exact hK k (by omega)
theorem join_eq (l : List S37) (hn : l.length ≤ 90) : Ev (fun k => cover_Join.f k l) (join l) := joinl l [] hn
def shows (i : S39) (x y : Int) : Prop := has i.f2 x y ∧ has i.f4 x y ∧ (i.f1 = 1 → ¬ has i.f3 x y)
instance (i : S39) (x y : Int) : Decidable (shows i x y) := by unfold shows; exact inferInstance
theorem rdi (l : List S39) (n : Nat) : rd_T39 l (n : Int) = l.getD n z39 := by unfold rd_T39; simp
theorem rdi_mid (l1 : List S39) (x : S39) (l2 : List S39) : rd_T39 (l1 ++ x :: l2) (l1.length : Int) = x := by unfold rd_T39; simp
def ownAt (l : List S39) (x y : Int) : Nat → Option Nat
 | 0 => none
 | n + 1 => if shows (l.getD n z39) x y then some n else ownAt l x y n
theorem ownAt_lt (l : List S39) (x y : Int) : ∀ n m, ownAt l x y n = some m → m < n ∧ shows (l.getD m z39) x y ∧ ∀ j, m < j → j < n → ¬ shows (l.getD j z39) x y
 | 0, m, h => by simp [ownAt] at h
 | n + 1, m, h => by
  unfold ownAt at h
  split at h
  ·rename_i hs
   obtain rfl := Option.some.inj h
   exact ⟨by omega, hs, fun j h1 h2 => by omega⟩
  ·rename_i hs
   obtain ⟨h1, h2, h3⟩ := ownAt_lt l x y n m h
   refine ⟨by omega, h2, fun j h4 h5 => ?_⟩
   rcases Nat.lt_or_ge j n with h6 | h6
   ·exact h3 j h4 h6
   ·obtain rfl : j = n := by omega
    exact hs
theorem ownAt_app (l l2 : List S39) (x y : Int) : ∀ n, n ≤ l.length → ownAt (l ++ l2) x y n = ownAt l x y n
 | 0, _ => rfl
 | n + 1, h => by
  unfold ownAt
  have e : (l ++ l2).getD n z39 = l.getD n z39 := by
   simp only [List.getD_eq_getElem?_getD]
   rw [List.getElem?_append_left (by omega)]
  rw [e, ownAt_app l l2 x y n (by omega)]
def ownr (l : List S39) (x y : Int) : Option Nat := ownAt l x y l.length
theorem ownr_snoc (l : List S39) (i : S39) (x y : Int) : ownr (l ++ [i]) x y = if shows i x y then some l.length else ownr l x y := by
 unfold ownr
 rw [List.length_append, List.length_singleton]
 show (if _ then _ else _) = _
 have e : (l ++ [i]).getD l.length z39 = i := by simp
 rw [e, ownAt_app l [i] x y l.length (Nat.le_refl _)]
theorem ownr_lt {l : List S39} {x y : Int} {m : Nat} (h : ownr l x y = some m) : m < l.length := (ownAt_lt l x y _ m h).1
def seen (i : S39) : S37 := meet i.f2 i.f4
theorem seen_eq (i : S39) : owner_Seen.f i.f0 i.f1 i.f2.f0 i.f2.f1 i.f2.f2 i.f2.f3 i.f3.f0 i.f3.f1 i.f3.f2 i.f3.f3 i.f4.f0 i.f4.f1 i.f4.f2 i.f4.f3 i.f5 = some ((seen i).f0, (seen i).f1, (seen i).f2, (seen i).f3) := by
 unfold owner_Seen.f seen
 rw [meet_eq]
 rfl
def eqr (r s : S37) : Bool := r.f0 == s.f0 && (r.f1 == s.f1 && (r.f2 == s.f2 && (r.f3 == s.f3)))
theorem eqr_iff (r s : S37) : eqr r s = true ↔ r = s := by
 unfold eqr
 cases r; cases s
 simp
def alk (a b : S39) : Bool := a.f1 == b.f1 && (eqr a.f2 b.f2 && (eqr a.f3 b.f3 && (eqr a.f4 b.f4 && (a.f5 == b.f5))))
theorem alk_iff (a b : S39) : alk a b = true ↔ a.f1 = b.f1 ∧ a.f2 = b.f2 ∧ a.f3 = b.f3 ∧ a.f4 = b.f4 ∧ a.f5 = b.f5 := by
 unfold alk
 simp only [Bool.and_eq_true, beq_iff_eq, eqr_iff]
theorem alk_comm (a b : S39) : alk a b = alk b a := by
 rw [Bool.eq_iff_iff, alk_iff, alk_iff]
 constructor <;> rintro ⟨h1, h2, h3, h4, h5⟩ <;> exact ⟨h1.symm, h2.symm, h3.symm, h4.symm, h5.symm⟩
theorem alike_eq (a b : S39) : harm_Alike.f a.f0 a.f1 a.f2.f0 a.f2.f1 a.f2.f2 a.f2.f3 a.f3.f0 a.f3.f1 a.f3.f2 a.f3.f3 a.f4.f0 a.f4.f1 a.f4.f2 a.f4.f3 a.f5 b.f0 b.f1 b.f2.f0 b.f2.f1 b.f2.f2 b.f2.f3 b.f3.f0 b.f3.f1 b.f3.f2 b.f3.f3 b.f4.f0 b.f4.f1 b.f4.f2 b.f4.f3 b.f5 = some (alk a b) := by
 unfold harm_Alike.f alk
 have e : ∀ r s : S37, (r.f0 == s.f0 && (r.f1 == s.f1 && (r.f2 == s.f2 && (r.f3 == s.f3)))) = eqr r s := fun _ _ => rfl
 rw [e, e, e]
 by_cases h : a.f1 = b.f1 <;> cases eqr a.f2 b.f2 <;> cases eqr a.f3 b.f3 <;> cases eqr a.f4 b.f4 <;> simp [h]
def pre : List S39 → List S39 → Nat
 | a :: as_, b :: bs => if alk a b then pre as_ bs + 1 else 0
 | _, _ => 0
theorem pre_comm : ∀ (a b : List S39), pre a b = pre b a
 | [], [] => rfl
 | [], _ :: _ => rfl
 | _ :: _, [] => rfl
 | a :: as_, b :: bs => by
  unfold pre
  rw [alk_comm a b, pre_comm as_ bs]
def midA (a b : List S39) : List S39 :=
 let x := a.drop (pre a b); let y := b.drop (pre a b)
 (x.reverse.drop (pre x.reverse y.reverse)).reverse
def midB (a b : List S39) : List S39 :=
 let x := a.drop (pre a b); let y := b.drop (pre a b)
 (y.reverse.drop (pre x.reverse y.reverse)).reverse
theorem midB_eq (a b : List S39) : midB a b = midA b a := by
 unfold midA midB
 simp only
 rw [pre_comm b a, pre_comm (List.drop (pre a b) b).reverse]
theorem midA_len (a b : List S39) : (midA a b).length ≤ a.length := by
 unfold midA
 simp only [List.length_reverse, List.length_drop]
 omega
theorem rdi0 (a : S39) (l : List S39) : rd_T39 (a :: l) 0 = a := rfl
theorem partsl1 : ∀ (r s : List S39) (k : Nat), r.length < k → r.length ≤ 1000000 → s.length ≤ 1000000 →
  harm_Parts.l1 k r.reverse s.reverse = some ((r.drop (pre r s)).reverse, (s.drop (pre r s)).reverse)
 | [], s, k, hk, hr, hs => by
  obtain ⟨k, rfl⟩ : ∃ m, k = m + 1 := ⟨k - 1, by omega⟩
  simp only [harm_Parts.l1]
  rw [if_neg (by simp), if_pos (by simp), if_pos (by simp <;> omega)]
  simp [pre]
 | a :: r, [], k, hk, hr, hs => by
  obtain ⟨k, rfl⟩ : ∃ m, k = m + 1 := ⟨k - 1, by omega⟩
  simp only [harm_Parts.l1]
  rw [if_pos (by simp <;> omega), if_neg (by simp), if_pos (by simp at hr ⊢ <;> omega), if_pos (by simp)]
  simp [pre]
 | a :: r, b :: s, k, hk, hr, hs => by
  obtain ⟨k, rfl⟩ : ∃ m, k = m + 1 := ⟨k - 1, by omega⟩
  simp only [List.length_cons] at hk hr hs
  have e1 : wrap64 (((a :: r).reverse.length : Int) - 1) = (r.length : Int) := by rw [w64 (by simp <;> omega) (by simp <;> omega)]; simp
  have e2 : wrap64 (((b :: s).reverse.length : Int) - 1) = (s.length : Int) := by rw [w64 (by simp <;> omega) (by simp <;> omega)]; simp
  have g1 : rd_T39 (a :: r).reverse (r.length : Int) = a := by rw [List.reverse_cons, rdi]; simp
  have g2 : rd_T39 (b :: s).reverse (s.length : Int) = b := by rw [List.reverse_cons, rdi]; simp
  simp only [harm_Parts.l1]
  rw [e1, e2, g1, g2, alike_eq, if_pos (by simp <;> omega), if_pos (by simp <;> omega), if_pos (by omega), if_pos (by simp <;> omega), if_pos (by omega), if_pos (by simp <;> omega)]
  simp only [Option.bind_some]
  by_cases h : alk a b = true
  ·rw [if_pos h, if_pos (by simp <;> omega), if_pos (by simp <;> omega), Int.toNat_natCast, Int.toNat_natCast]
   have t1 : (a :: r).reverse.take r.length = r.reverse := by rw [List.reverse_cons, List.take_left' (by simp)]
   have t2 : (b :: s).reverse.take s.length = s.reverse := by rw [List.reverse_cons, List.take_left' (by simp)]
   rw [t1, t2, partsl1 r s k (by omega) (by omega) (by omega)]
   have : pre (a :: r) (b :: s) = pre r s + 1 := by rw [pre, if_pos h]
   rw [this, List.drop_succ_cons, List.drop_succ_cons]
  ·rw [if_neg h, if_pos (by simp <;> omega), if_pos (by simp <;> omega)]
   have : pre (a :: r) (b :: s) = 0 := by rw [pre, if_neg h]
   rw [this]
   simp
theorem partsl0 : ∀ (a b : List S39) (k : Nat), a.length + a.length + 2 < k → a.length ≤ 1000000 → b.length ≤ 1000000 →
  harm_Parts.l0 k a b = some (midA a b, midB a b)
 | a, b, k, hk, ha, hb => by
  have hj : ∀ (x y : List S39) (k : Nat), x.length + 1 < k → x.length ≤ 1000000 → y.length ≤ 1000000 → pre x y = 0 → harm_Parts.j1 k x y = some (midA x y, midB x y) := by
   intro x y k hk hx hy hp
   obtain ⟨k, rfl⟩ : ∃ m, k = m + 1 := ⟨k - 1, by omega⟩
   simp only [harm_Parts.j1]
   have := partsl1 x.reverse y.reverse k (by simp <;> omega) (by simpa using hx) (by simpa using hy)
   rw [List.reverse_reverse, List.reverse_reverse] at this
   rw [this]
   unfold midA midB
   rw [hp]
   rfl
  match a, b, hk, ha, hb with
  | [], b, hk, ha, hb =>
   obtain ⟨k, rfl⟩ : ∃ m, k = m + 1 := ⟨k - 1, by omega⟩
   simp only [harm_Parts.l0]
   rw [if_neg (by simp)]
   exact hj _ _ k (by simp at hk ⊢ <;> omega) ha hb rfl
  | a :: as_, [], hk, ha, hb =>
   obtain ⟨k, rfl⟩ : ∃ m, k = m + 1 := ⟨k - 1, by omega⟩
   simp only [harm_Parts.l0]
   rw [if_pos (by simp <;> omega), if_neg (by simp)]
   exact hj _ _ k (by simp at hk ⊢ <;> omega) ha hb rfl
  | a :: as_, b :: bs, hk, ha, hb =>
   obtain ⟨k, rfl⟩ : ∃ m, k = m + 1 := ⟨k - 1, by omega⟩
   simp only [List.length_cons] at hk ha hb
   simp only [harm_Parts.l0]
   rw [if_pos (by simp <;> omega), if_pos (by simp <;> omega), if_pos (by simp <;> omega), if_pos (by simp <;> omega), rdi0, rdi0, alike_eq]
   simp only [Option.bind_some]
   by_cases h : alk a b = true
   ·rw [if_pos h, if_pos (by simp <;> omega), if_pos (by simp <;> omega), List.drop_succ_cons, List.drop_succ_cons, List.drop_zero, List.drop_zero, partsl0 as_ bs k (by omega) (by omega) (by omega)]
    have : pre (a :: as_) (b :: bs) = pre as_ bs + 1 := by rw [pre, if_pos h]
    unfold midA midB
    rw [this, List.drop_succ_cons, List.drop_succ_cons]
   ·rw [if_neg h]
    exact hj _ _ k (by simp <;> omega) (by simp <;> omega) (by simp <;> omega) (by rw [pre, if_neg h])
termination_by a => a.length
theorem parts_eq (a b : List S39) (k : Nat) (hk : a.length + a.length + 2 < k) (ha : a.length ≤ 1000000) (hb : b.length ≤ 1000000) : harm_Parts.f k a b = some (midA a b, midB a b) := partsl0 a b k hk ha hb
def harm (a b : List S39) : List S37 := join ((midA a b ++ midB a b).map seen)
theorem harml (l2 : List S39) : ∀ (l1 : List S39), (l1 ++ l2).length ≤ 90 →
  Ev (fun k => harm_Of.l0 k (l1.map seen) (l1 ++ l2) ((l1 ++ l2).length : Int) (l1.length : Int)) (join ((l1 ++ l2).map seen)) := by
 induction l2 with
 | nil =>
  intro l1 hn
  rw [List.append_nil] at hn ⊢
  obtain ⟨K, hK⟩ := join_eq (l1.map seen) (by simpa using hn)
  dsimp only at hK
  refine ⟨K + 1, fun k hk => ?_⟩
  obtain ⟨k, rfl⟩ : ∃ m, k = m + 1 := ⟨k - 1, by omega⟩
  simp only [harm_Of.l0]
  rw [if_neg (by omega), hK k (by omega)]
  rfl
 | cons i l2 ih =>
  intro l1 hn
  have hl : l1.length < 90 := by simp at hn; omega
  obtain ⟨K, hK⟩ := ih (l1 ++ [i]) (by rw [← mid_app]; exact hn)
  refine ⟨K + 1, fun k hk => ?_⟩
  obtain ⟨k, rfl⟩ : ∃ m, k = m + 1 := ⟨k - 1, by omega⟩
  simp only [harm_Of.l0]
  rw [if_pos (mid_lt _ _ _), if_pos (by omega), if_pos (mid_lt _ _ _), rdi_mid, mid_next l1 i l2 (by omega), seen_eq]
  simp only [Option.bind_some]
  rw [if_pos (by rw [List.length_map]; omega), mid_app l1 i l2]
  have e : l1.map seen ++ [seen i] = (l1 ++ [i]).map seen := by simp
  have e2 := hK k (by omega)
  rw [← e] at e2
  exact e2
theorem harm_eq (a b : List S39) (ha : a.length + b.length ≤ 90) : Ev (fun k => harm_Of.f k a b) (harm a b) := by
 have h1 := midA_len a b
 have h2 := midA_len b a
 rw [← midB_eq] at h2
 obtain ⟨K, hK⟩ := harml (midA a b ++ midB a b) [] (by simp <;> omega)
 refine ⟨K + 300, fun k hk => ?_⟩
 show harm_Of.f k a b = _
 unfold harm_Of.f
 rw [parts_eq a b k (by omega) (by omega) (by omega)]
 simp only [Option.bind_some]
 rw [if_pos (by omega)]
 exact hK k (by omega)
theorem shows_eq (i : S39) (x y : Int) : owner_Shows.f i.f0 i.f1 i.f2.f0 i.f2.f1 i.f2.f2 i.f2.f3 i.f3.f0 i.f3.f1 i.f3.f2 i.f3.f3 i.f4.f0 i.f4.f1 i.f4.f2 i.f4.f3 i.f5 x y = some (decide (shows i x y)) := by
 unfold owner_Shows.f
 rw [holds_eq, holds_eq, holds_eq]
 simp only [Option.bind_some]
 unfold shows
 by_cases h1 : has i.f2 x y <;> by_cases h2 : has i.f4 x y <;> by_cases h3 : i.f1 = 1 <;> by_cases h4 : has i.f3 x y <;> simp [h1, h2, h3, h4]
theorem ofl (l : List S39) (x y : Int) (hl : l.length ≤ 4611686018427387904) : ∀ (n k : Nat), n < k → n ≤ l.length →
  owner_Of.l0 k l x y ((n : Int) - 1) = some (match ownAt l x y n with | some m => ((m : Int), true) | none => (0, false))
 | 0, k, hk, _ => by
  obtain ⟨k, rfl⟩ : ∃ m, k = m + 1 := ⟨k - 1, by omega⟩
  simp only [owner_Of.l0]
  rw [if_neg (by omega)]
  rfl
 | n + 1, k, hk, hn => by
  obtain ⟨k, rfl⟩ : ∃ m, k = m + 1 := ⟨k - 1, by omega⟩
  have e : ((n + 1 : Nat) : Int) - 1 = (n : Int) := by omega
  rw [e]
  simp only [owner_Of.l0]
  rw [if_pos (by omega), if_pos (by omega), if_pos (by omega), rdi, shows_eq, w64 (by omega) (by omega)]
  simp only [Option.bind_some]
  unfold ownAt
  by_cases hs : shows (l.getD n z39) x y
  ·rw [if_pos (by simpa using hs), if_pos hs]
  ·rw [if_neg (by simpa using hs), if_neg hs]
   exact ofl l x y hl n k (by omega) (by omega)
theorem of_eq (l : List S39) (x y : Int) (k : Nat) (hk : l.length < k) (hl : l.length ≤ 4611686018427387904) :
  owner_Of.f k l x y = some (match ownr l x y with | some m => ((m : Int), true) | none => (0, false)) := by
 unfold owner_Of.f
 rw [w64 (by omega) (by omega)]
 exact ofl l x y hl l.length k hk (Nat.le_refl _)
theorem rshows_eq (i : S39) (x y : Int) : decoupageref26_Shows.f i.f0 i.f1 i.f2.f0 i.f2.f1 i.f2.f2 i.f2.f3 i.f3.f0 i.f3.f1 i.f3.f2 i.f3.f3 i.f4.f0 i.f4.f1 i.f4.f2 i.f4.f3 i.f5 x y = some (decide (shows i x y)) := by
 unfold decoupageref26_Shows.f
 rw [rholds_eq, rholds_eq, rholds_eq]
 simp only [Option.bind_some]
 unfold shows
 by_cases h1 : has i.f2 x y <;> by_cases h2 : has i.f4 x y <;> by_cases h3 : i.f1 = 1 <;> by_cases h4 : has i.f3 x y <;> simp [h1, h2, h3, h4]
def ownI : Option Nat → Int
 | some m => (m : Int)
 | none => -1
theorem rownl (l : List S39) (x y : Int) (hl : l.length ≤ 4611686018427387904) : ∀ (d n k : Nat), n + d = l.length → d < k →
  decoupageref26_Owner.l0 k l x y (ownI (ownAt l x y n)) (l.length : Int) (n : Int) = some (ownI (ownr l x y))
 | 0, n, k, hn, hk => by
  obtain ⟨k, rfl⟩ : ∃ m, k = m + 1 := ⟨k - 1, by omega⟩
  obtain rfl : n = l.length := by omega
  simp only [decoupageref26_Owner.l0]
  rw [if_neg (by omega)]
  rfl
 | d + 1, n, k, hn, hk => by
  obtain ⟨k, rfl⟩ : ∃ m, k = m + 1 := ⟨k - 1, by omega⟩
  simp only [decoupageref26_Owner.l0]
  have e : wrap64 ((n : Int) + 1) = ((n + 1 : Nat) : Int) := by rw [w64 (by omega) (by omega)]; omega
  rw [if_pos (by omega), if_pos (by omega), if_pos (by omega), rdi, rshows_eq, e]
  simp only [Option.bind_some]
  have ih := rownl l x y hl d (n + 1) k (by omega) (by omega)
  simp only [ownAt] at ih
  by_cases hs : shows (l.getD n z39) x y
  ·rw [if_pos (by simpa using hs)]
   rw [if_pos hs] at ih
   exact ih
  ·rw [if_neg (by simpa using hs)]
   rw [if_neg hs] at ih
   exact ih
theorem rown_eq (l : List S39) (x y : Int) (k : Nat) (hk : l.length < k) (hl : l.length ≤ 4611686018427387904) : decoupageref26_Owner.f k l x y = some (ownI (ownr l x y)) := by
 unfold decoupageref26_Owner.f
 exact rownl l x y hl l.length 0 k (by omega) hk
theorem cmp_in (zs : List Int) : ∀ j, j < zs.length → zs.toArray[j]! ∈ Lib.compact zs := by
 intro j
 induction j with
 | zero => intro h; exact List.mem_map.2 ⟨0, List.mem_filter.2 ⟨by simpa using h, by unfold Lib.keeps; simp⟩, rfl⟩
 | succ j ih =>
  intro h
  by_cases hk : zs.toArray[j + 1]! = zs.toArray[j]!
  ·rw [hk]; exact ih (by omega)
  ·exact List.mem_map.2 ⟨j + 1, List.mem_filter.2 ⟨by simpa using h, Lib.keeps_pos hk⟩, rfl⟩
theorem at_to (zs : List Int) (j : Nat) (h : j < zs.length) : zs.toArray[j]! = zs[j] := by
 rw [getElem!_pos zs.toArray j (by simpa using h)]
 simp
theorem cmp_mem (zs : List Int) (x : Int) : x ∈ Lib.compact zs ↔ x ∈ zs := by
 constructor
 ·intro h
  obtain ⟨j, hj, rfl⟩ := List.mem_map.1 h
  have hj' : j < zs.length := by simpa using (List.mem_filter.1 hj).1
  show zs.toArray[j]! ∈ zs
  rw [at_to zs j hj']
  exact List.getElem_mem hj'
 ·intro h
  obtain ⟨j, hj, rfl⟩ := List.mem_iff_getElem.1 h
  rw [← at_to zs j hj]
  exact cmp_in zs j hj
theorem cmp_lt (zs : List Int) (h : zs.Pairwise (· ≤ ·)) : (Lib.compact zs).Pairwise (· < ·) := by
 have hm : ∀ a b, a ≤ b → b < zs.length → zs.toArray[a]! ≤ zs.toArray[b]! := by
  intro a b hab hb
  rw [at_to zs a (by omega), at_to zs b hb]
  rcases Nat.lt_or_ge a b with h1 | h1
  ·exact List.pairwise_iff_getElem.1 h a b (by omega) hb h1
  ·obtain rfl : a = b := by omega
   exact Int.le_refl _
 unfold Lib.compact Lib.compactUpTo
 rw [List.pairwise_map, List.pairwise_filter]
 refine List.pairwise_iff_getElem.2 ?_
 intro i j hi hj hij _ hk
 rw [List.getElem_range] at hk
 rw [List.getElem_range, List.getElem_range]
 have hj' : j < zs.length := by simpa using hj
 have hk' := of_decide_eq_true hk
 have hne : zs.toArray[j]! ≠ zs.toArray[j - 1]! := by
  rcases hk' with h0 | h0
  ·omega
  ·exact h0
 have h1 := hm i (j - 1) (by omega) (by omega)
 have h2 := hm (j - 1) j (by omega) hj'
 omega
theorem edg_lt (s : List Int) : (edg s).Pairwise (· < ·) := by
 refine cmp_lt _ ?_
 have h := List.pairwise_mergeSort (le := fun x y : Int => decide (x ≤ y)) (by intro a b c h1 h2; simp at h1 h2 ⊢; omega) (by intro a b; simp; omega) s
 exact h.imp (fun h => by simpa using h)
theorem edg_mem (s : List Int) (x : Int) : x ∈ edg s ↔ x ∈ s := by
 unfold edg
 rw [cmp_mem, List.mem_mergeSort]
theorem edg_len (s : List Int) : (edg s).length ≤ s.length := by
 unfold edg Lib.compact Lib.compactUpTo
 rw [List.length_map]
 refine Nat.le_trans (List.length_filter_le _ _) ?_
 rw [List.length_range, List.length_mergeSort]
 exact Nat.le_refl _
structure Edges (l : List S39) (a b : Int) (E : List Int) : Prop where
 lt : E.Pairwise (· < ·)
 ends : ∃ t, E = a :: t
 last : ∃ t, E = t ++ [b]
 mem : ∀ i ∈ l, ∀ p ∈ places i, a < p → p < b → p ∈ E
 len : E.length ≤ 6 * l.length + 2
theorem edges_ok (l : List S39) (a b : Int) (hab : a < b) (hl : l.length ≤ 1000) : ∃ E, raster_edges.f l a b = some E ∧ Edges l a b E := by
 refine ⟨edg (raster_edges.raw l a b), by unfold raster_edges.f; rw [if_pos hl], ?_⟩
 have hm : ∀ x, x ∈ edg (raster_edges.raw l a b) ↔ x ∈ raster_edges.raw l a b := edg_mem _
 have hlt := edg_lt (raster_edges.raw l a b)
 have hr : ∀ x, x ∈ raster_edges.raw l a b → a ≤ x ∧ x ≤ b := by
  intro x hx
  unfold raster_edges.raw at hx
  simp only [List.mem_append, List.mem_cons, List.not_mem_nil, or_false, List.mem_flatMap, List.mem_filter, Bool.and_eq_true, decide_eq_true_eq] at hx
  rcases hx with (rfl | rfl) | ⟨_, _, _, h1, h2⟩
  ·omega
  ·omega
  ·omega
 have hin : a ∈ edg (raster_edges.raw l a b) := (hm a).2 (by simp [raster_edges.raw])
 have hib : b ∈ edg (raster_edges.raw l a b) := (hm b).2 (by simp [raster_edges.raw])
 have hlen := Nat.le_trans (edg_len (raster_edges.raw l a b)) (raster_edges.raw_len l a b)
 refine ⟨hlt, ?_, ?_, ?_, hlen⟩
 ·cases hE : edg (raster_edges.raw l a b) with
  | nil => rw [hE] at hin; cases hin
  | cons h t =>
   rw [hE] at hin hlt
   have h1 := hr h ((hm h).1 (by rw [hE]; simp))
   rcases List.mem_cons.1 hin with e | e
   ·exact ⟨t, by rw [e]⟩
   ·have := List.rel_of_pairwise_cons hlt e
    omega
 ·rcases List.eq_nil_or_concat (edg (raster_edges.raw l a b)) with hE | ⟨t, z, hE⟩
  ·rw [hE] at hin; cases hin
  ·have hE' : edg (raster_edges.raw l a b) = t ++ [z] := by rw [hE, List.concat_eq_append]
   refine ⟨t, ?_⟩
   rw [hE'] at hib hlt ⊢
   have h1 := hr z ((hm z).1 (by rw [hE']; simp))
   rcases List.mem_append.1 hib with e | e
   ·have := (List.pairwise_append.1 hlt).2.2 b e z (by simp)
    omega
   ·rw [List.mem_singleton.1 e]
 ·intro i hi p hp h1 h2
  refine (hm p).2 ?_
  unfold raster_edges.raw
  refine List.mem_append_right _ (List.mem_flatMap.2 ⟨i, hi, List.mem_filter.2 ⟨hp, by simp [h1, h2]⟩⟩)
theorem own_const (l : List S39) (y e x : Int) (hex : e ≤ x) (h : ∀ i ∈ l, ∀ p ∈ places i, ¬ (e < p ∧ p ≤ x)) : ownr l x y = ownr l e y := by
 unfold ownr
 have : ∀ n, n ≤ l.length → ownAt l x y n = ownAt l e y n := by
  intro n
  induction n with
  | zero => intro _; rfl
  | succ n ih =>
   intro hn
   unfold ownAt
   rw [ih (by omega)]
   have hi : l.getD n z39 ∈ l := by rw [List.getD_eq_getElem?_getD, List.getElem?_eq_getElem (by omega)]; exact List.getElem_mem _
   have hp := h _ hi
   generalize l.getD n z39 = i at hp
   unfold places at hp
   simp only [List.mem_cons, List.not_mem_nil, or_false, forall_eq_or_imp, forall_eq] at hp
   have hs2 : shows i x y ↔ shows i e y := by
    unfold shows has
    obtain ⟨h1, h2, h3, h4, h5, h6⟩ := hp
    constructor
    ·rintro ⟨h7, h8, h9⟩
     exact ⟨by omega, by omega, fun h10 h11 => h9 h10 (by omega)⟩
    ·rintro ⟨h7, h8, h9⟩
     exact ⟨by omega, by omega, fun h10 h11 => h9 h10 (by omega)⟩
   by_cases hs : shows i e y
   ·rw [if_pos hs, if_pos (hs2.2 hs)]
   ·rw [if_neg hs, if_neg (fun h => hs (hs2.1 h))]
 exact this l.length (Nat.le_refl _)
structure RunOK (l : List S39) (y a e : Int) (acc : List S56) : Prop where
 b1 : ∀ r ∈ acc, a ≤ r.f0 ∧ r.f0 < r.f1 ∧ r.f1 ≤ e ∧ 0 ≤ r.f2 ∧ r.f2 < l.length
 ap : acc.Pairwise fun r s => r.f1 ≤ s.f0 ∧ (r.f1 = s.f0 → r.f2 ≠ s.f2)
 c1 : ∀ r ∈ acc, ∀ x, r.f0 ≤ x → x < r.f1 → ownr l x y = some r.f2.toNat
 c2 : ∀ x, a ≤ x → x < e → ∀ n, ownr l x y = some n → ∃ r ∈ acc, r.f0 ≤ x ∧ x < r.f1
theorem RunOK.start (l : List S39) (y a : Int) : RunOK l y a a [] := ⟨by simp, List.Pairwise.nil, by simp, fun x h1 h2 => by omega⟩
theorem RunOK.none_ {l : List S39} {y a e e' : Int} {acc : List S56} (h : RunOK l y a e acc) (he : e ≤ e') (hn : ∀ x, e ≤ x → x < e' → ownr l x y = none) : RunOK l y a e' acc :=
 ⟨fun r hr => by have := h.b1 r hr; omega, h.ap, h.c1, fun x h1 h2 n hx => by
  rcases Int.lt_or_le x e with h3 | h3
  ·exact h.c2 x h1 h3 n hx
  ·rw [hn x h3 h2] at hx; cases hx⟩
theorem RunOK.snoc {l : List S39} {y a e e' : Int} {acc : List S56} {n : Nat} (h : RunOK l y a e acc) (hae : a ≤ e) (he : e < e') (hnl : n < l.length) (hn : ∀ x, e ≤ x → x < e' → ownr l x y = some n) (hlast : ∀ r ∈ acc, r.f1 = e → r.f2 ≠ (n : Int)) : RunOK l y a e' (acc ++ [⟨e, e', (n : Int)⟩]) := by
 refine ⟨?_, ?_, ?_, ?_⟩
 ·intro r hr
  rcases List.mem_append.1 hr with hr | hr
  ·have := h.b1 r hr; omega
  ·rw [List.mem_singleton.1 hr]; simp; omega
 ·rw [List.pairwise_append]
  refine ⟨h.ap, List.pairwise_singleton _ _, fun r hr s hs => ?_⟩
  rw [List.mem_singleton.1 hs]
  exact ⟨(h.b1 r hr).2.2.1, fun e1 => hlast r hr e1⟩
 ·intro r hr x h1 h2
  rcases List.mem_append.1 hr with hr | hr
  ·exact h.c1 r hr x h1 h2
  ·rw [List.mem_singleton.1 hr] at h1 h2 ⊢
   rw [hn x h1 h2]; simp
 ·intro x h1 h2 m hx
  rcases Int.lt_or_le x e with h3 | h3
  ·obtain ⟨r, hr, h4⟩ := h.c2 x h1 h3 m hx
   exact ⟨r, List.mem_append_left _ hr, h4⟩
  ·exact ⟨_, List.mem_append_right _ (List.mem_singleton.2 rfl), h3, h2⟩
theorem RunOK.more {l : List S39} {y a e e' : Int} {init : List S56} {r : S56} {n : Nat} (h : RunOK l y a e (init ++ [r])) (he : e < e') (hn : ∀ x, e ≤ x → x < e' → ownr l x y = some n) (h1 : r.f1 = e) (h2 : r.f2 = (n : Int)) : RunOK l y a e' (init ++ [⟨r.f0, e', r.f2⟩]) := by
 have hr0 := h.b1 r (by simp)
 have hap := List.pairwise_append.1 h.ap
 refine ⟨?_, ?_, ?_, ?_⟩
 ·intro q hq
  rcases List.mem_append.1 hq with hq | hq
  ·have := h.b1 q (List.mem_append_left _ hq); omega
  ·rw [List.mem_singleton.1 hq]; simp only; omega
 ·rw [List.pairwise_append]
  refine ⟨hap.1, List.pairwise_singleton _ _, fun q hq s hs => ?_⟩
  rw [List.mem_singleton.1 hs]
  exact hap.2.2 q hq r (by simp)
 ·intro q hq x h3 h4
  rcases List.mem_append.1 hq with hq | hq
  ·exact h.c1 q (List.mem_append_left _ hq) x h3 h4
  ·rw [List.mem_singleton.1 hq] at h3 h4 ⊢
   simp only at h3 h4 ⊢
   rcases Int.lt_or_le x e with h5 | h5
   ·exact h.c1 r (by simp) x h3 (by omega)
   ·rw [hn x h5 h4, h2]; simp
 ·intro x h3 h4 m hx
  rcases Int.lt_or_le x e with h5 | h5
  ·obtain ⟨q, hq, h6⟩ := h.c2 x h3 h5 m hx
   rcases List.mem_append.1 hq with hq | hq
   ·exact ⟨q, List.mem_append_left _ hq, h6⟩
   ·rw [List.mem_singleton.1 hq] at h6
    exact ⟨_, List.mem_append_right _ (List.mem_singleton.2 rfl), h6.1, by simp only; omega⟩
  ·exact ⟨_, List.mem_append_right _ (List.mem_singleton.2 rfl), by simp only; omega, h4⟩
theorem rdr_mid (l1 : List S56) (x : S56) (l2 : List S56) : rd_T56 (l1 ++ x :: l2) (l1.length : Int) = x := by unfold rd_T56; simp
theorem set_last {α : Type} (init : List α) (r s : α) : (init ++ [r]).set init.length s = init ++ [s] := by simp
theorem runs_l0 (l : List S39) (y a b : Int) (hl : l.length ≤ 1000) (E : List Int) (hE : Edges l a b E) : ∀ (E2 E1 : List Int) (e : Int) (acc : List S56) (k : Nat), E1 ++ e :: E2 = E → RunOK l y a e acc → acc.length ≤ E1.length → l.length + E2.length < k →
  ∃ R, raster_Runs.l0 k l y acc E (E.take (E.length - 1)) ((E.length - 1 : Nat) : Int) (E1.length : Int) = some R ∧ RunOK l y a b R ∧ R.length ≤ E.length := by
 have hElen := hE.len
 intro E2
 induction E2 with
 | nil =>
  intro E1 e acc k h1 h2 h3 h4
  obtain ⟨k, rfl⟩ : ∃ m, k = m + 1 := ⟨k - 1, by omega⟩
  simp only [raster_Runs.l0]
  have hl1 : E.length - 1 = E1.length := by rw [← h1]; simp
  rw [hl1, if_neg (by omega)]
  refine ⟨acc, rfl, ?_, by omega⟩
  obtain ⟨t, ht⟩ := hE.last
  have : e = b := by
   have h5 := h1.trans ht
   exact (List.append_inj' h5 rfl).2 |> List.singleton_inj.1
  rw [← this]
  exact h2
 | cons e' E2 ih =>
  intro E1 e acc k h1 h2 h3 h4
  obtain ⟨k, rfl⟩ : ∃ m, k = m + 1 := ⟨k - 1, by omega⟩
  have hlen : E.length = E1.length + E2.length + 2 := by rw [← h1]; simp; omega
  have hpw := hE.lt
  rw [← h1] at hpw
  have hee : e < e' := List.rel_of_pairwise_cons (List.pairwise_append.1 hpw).2.1 (by simp)
  have hae : a ≤ e := by
   obtain ⟨t, ht⟩ := hE.ends
   cases E1 with
   | nil => rw [ht] at h1; simp at h1; omega
   | cons h0 E1 =>
    rw [ht] at h1
    simp only [List.cons_append, List.cons.injEq] at h1
    have := (List.pairwise_append.1 hpw).2.2 h0 (by simp) e (by simp)
    omega
  have heb : e' ≤ b := by
   obtain ⟨t, ht⟩ := hE.last
   have hb : b ∈ E := by rw [ht]; simp
   have hp2 := hE.lt
   rw [ht] at hp2
   have he' : e' ∈ t ++ [b] := by rw [← ht, ← h1]; simp
   rcases List.mem_append.1 he' with h5 | h5
   ·have := (List.pairwise_append.1 hp2).2.2 e' h5 b (by simp); omega
   ·rw [List.mem_singleton.1 h5]; omega
  have hconst : ∀ x, e ≤ x → x < e' → ownr l x y = ownr l e y := by
   intro x h5 h6
   refine own_const l y e x h5 ?_
   rintro i hi p hp ⟨h7, h8⟩
   have hpE : p ∈ E := hE.mem i hi p hp (by omega) (by omega)
   rw [← h1] at hpE
   rcases List.mem_append.1 hpE with h9 | h9
   ·have := (List.pairwise_append.1 hpw).2.2 p h9 e (by simp); omega
   ·rcases List.mem_cons.1 h9 with h9 | h9
    ·omega
    ·have hp3 := (List.pairwise_append.1 hpw).2.1
     rw [List.pairwise_cons] at hp3
     rcases List.mem_cons.1 h9 with h10 | h10
     ·omega
     ·have := List.rel_of_pairwise_cons hp3.2 h10; omega
  have ht : E.take (E.length - 1) = E1 ++ e :: (e' :: E2).take E2.length := by
   rw [hlen, ← h1, List.take_append]
   rw [List.take_of_length_le (by omega), show E1.length + E2.length + 2 - 1 - E1.length = E2.length + 1 by omega]
   rfl
  have hr1 : rd (E.take (E.length - 1)) (E1.length : Int) = e := by rw [ht]; exact rd_mid_i _ _ _
  have hw : wrap64 ((E1.length : Int) + 1) = ((E1 ++ [e]).length : Int) := by rw [w64 (by omega) (by omega)]; simp
  have hr2 : rd E (((E1 ++ [e]).length : Nat) : Int) = e' := by
   rw [← h1, show E1 ++ e :: e' :: E2 = (E1 ++ [e]) ++ e' :: E2 by simp]
   exact rd_mid_i _ _ _
  have htl : (E.take (E.length - 1)).length = E.length - 1 := by rw [List.length_take]; omega
  have ih' := fun acc h2 h3 => ih (E1 ++ [e]) e' acc k (by rw [← h1]; simp) h2 h3 (by simp at h4; omega)
  have hn1 : ((E1 ++ [e]).length : Int) = E1.length + 1 := by simp
  simp only [raster_Runs.l0]
  rw [if_pos (by omega), if_pos (by omega), if_pos (by rw [htl]; omega), hr1, hw, of_eq l e y k (by simp at h4; omega) (by omega), hr2]
  simp only [Option.bind_some]
  cases ho : ownr l e y with
  | none =>
   simp only [Bool.false_eq_true, if_false]
   exact ih' acc (h2.none_ (by omega) (fun x h5 h6 => by rw [hconst x h5 h6, ho])) (by simp; omega)
  | some n =>
   have hnl := ownr_lt ho
   have hc : ∀ x, e ≤ x → x < e' → ownr l x y = some n := fun x h5 h6 => by rw [hconst x h5 h6, ho]
   simp only [if_true]
   rcases List.eq_nil_or_concat acc with rfl | ⟨init, r, hacc⟩
   ·rw [if_neg (by unfold wrap64; simp only [List.length_nil]; omega), if_pos (by omega), if_pos (by omega), if_pos (by simp)]
    exact ih' _ (h2.snoc hae hee hnl hc (by simp)) (by simp)
   ·have hacc' : acc = init ++ [r] := by rw [hacc, List.concat_eq_append]
    subst hacc'
    have hil : wrap64 (((init ++ [r]).length : Int) - 1) = (init.length : Int) := by simp only [List.length_append, List.length_singleton] at h3 ⊢; rw [w64 (by omega) (by omega)]; omega
    have hrr : rd_T56 (init ++ [r]) (init.length : Int) = r := rdr_mid init r []
    rw [hil, if_pos (by omega), if_pos (by omega), if_pos (by simp only [List.length_append, List.length_singleton]; omega), hrr]
    have hsnoc : (∀ q ∈ init ++ [r], q.f1 = e → q.f2 ≠ (n : Int)) → _ := fun hq => ih' _ (h2.snoc hae hee hnl hc hq) (by simp only [List.length_append, List.length_singleton] at h3 ⊢; omega)
    have hinit : ∀ q ∈ init, q.f1 < e := by
     intro q hq
     have h5 := (List.pairwise_append.1 h2.ap).2.2 q hq r (by simp)
     have h6 := h2.b1 r (by simp)
     omega
    by_cases hf2 : r.f2 = (n : Int)
    ·rw [if_pos hf2]
     by_cases hf1 : r.f1 = e
     ·rw [if_pos hf1, if_pos (by omega), if_pos (by omega), Int.toNat_natCast, set_last]
      exact ih' _ (h2.more hee hc hf1 hf2) (by simp only [List.length_append, List.length_singleton] at h3 ⊢; omega)
     ·rw [if_neg hf1, if_pos (by omega), if_pos (by omega), if_pos (by simp only [List.length_append, List.length_singleton] at h3 ⊢; omega)]
      refine hsnoc ?_
      intro q hq h5
      rcases List.mem_append.1 hq with hq | hq
      ·have := hinit q hq; omega
      ·rw [List.mem_singleton.1 hq] at h5; exact absurd h5 hf1
    ·rw [if_neg hf2, if_pos (by omega), if_pos (by omega), if_pos (by simp only [List.length_append, List.length_singleton] at h3 ⊢; omega)]
     refine hsnoc ?_
     intro q hq h5
     rcases List.mem_append.1 hq with hq | hq
     ·have := hinit q hq; omega
     ·rw [List.mem_singleton.1 hq]; exact hf2
theorem runs_f (l : List S39) (y a b : Int) (hl : l.length ≤ 1000) (hab : a < b) (k : Nat) (hk : 7 * l.length + 4 < k) : ∃ R, raster_Runs.f k l y a b = some R ∧ RunOK l y a b R ∧ R.length ≤ 6 * l.length + 2 := by
 obtain ⟨E, he, hE⟩ := edges_ok l a b hab hl
 unfold raster_Runs.f
 rw [if_neg (by omega), he]
 simp only [Option.bind_some]
 have hElen := hE.len
 obtain ⟨t, ht⟩ := hE.ends
 have hpos : 1 ≤ E.length := by rw [ht]; simp
 have hw : wrap64 ((E.length : Int) - 1) = ((E.length - 1 : Nat) : Int) := by rw [w64 (by omega) (by omega)]; omega
 have htl : (E.take (E.length - 1)).length = E.length - 1 := by rw [List.length_take]; omega
 rw [hw, if_pos (by omega), if_pos (by omega), Int.toNat_natCast, htl]
 have htl2 : t.length = E.length - 1 := by rw [ht]; simp
 obtain ⟨R, h1, h2, h3⟩ := runs_l0 l y a b hl E hE t [] a [] k (by simp [ht]) (RunOK.start l y a) (by simp) (by omega)
 exact ⟨R, h1, h2, by omega⟩
def okG (X Y S W H : Int) : Prop := 1 ≤ W ∧ 1 ≤ H ∧ W ≤ 4096 ∧ H ≤ 4096 ∧ W * H ≤ 4096 ∧ 1 ≤ S ∧ S ≤ 1099511627776 ∧ -1099511627776 ≤ X ∧ X ≤ 1099511627776 ∧ -1099511627776 ≤ Y ∧ Y ≤ 1099511627776
instance (X Y S W H : Int) : Decidable (okG X Y S W H) := by unfold okG; exact inferInstance
theorem within_eq (n : Int) : raster_within.f n 1099511627776 = some (decide (-1099511627776 ≤ n ∧ n ≤ 1099511627776)) := by
 unfold raster_within.f
 rw [show wrap64 (-1099511627776) = -1099511627776 from by unfold wrap64; omega]
 by_cases h1 : n ≥ -1099511627776
 ·rw [if_pos h1]; simp [show -1099511627776 ≤ n from h1]
 ·rw [if_neg h1]; simp [show ¬ -1099511627776 ≤ n from h1]
theorem wh_le {W H : Int} (h1 : 1 ≤ W) (h2 : 1 ≤ H) (h3 : W ≤ 4096) (h4 : H ≤ 4096) : 1 ≤ W * H ∧ W * H ≤ 16777216 := by
 constructor
 ·have := Int.mul_le_mul h1 h2 (by omega) (by omega); omega
 ·have := Int.mul_le_mul h3 h4 (by omega) (by omega); omega
theorem right_eq (X Y S W H : Int) (k : Nat) (hk : 0 < k) : raster_Grid_right.f k X Y S W H = some (decide (okG X Y S W H)) := by
 obtain ⟨k, rfl⟩ : ∃ m, k = m + 1 := ⟨k - 1, by omega⟩
 unfold raster_Grid_right.f okG
 by_cases h1 : W < 1
 ·rw [if_pos h1]; simp only [raster_Grid_right.j0, if_true]; simp [show ¬ 1 ≤ W by omega]
 rw [if_neg h1]
 by_cases h2 : H < 1
 ·rw [if_pos h2]; simp only [raster_Grid_right.j0, if_true]; simp [show ¬ 1 ≤ H by omega]
 rw [if_neg h2]
 by_cases h3 : W > 4096
 ·rw [if_pos h3]; simp only [raster_Grid_right.j0, if_true]; simp [show ¬ W ≤ 4096 by omega]
 rw [if_neg h3]
 by_cases h4 : H > 4096
 ·rw [if_pos h4]; simp only [raster_Grid_right.j0, if_true]; simp [show ¬ H ≤ 4096 by omega]
 rw [if_neg h4]
 have h5 := wh_le (W := W) (H := H) (by omega) (by omega) (by omega) (by omega)
 rw [w64 (by omega) (by omega)]
 simp only [raster_Grid_right.j0]
 by_cases h6 : W * H > 4096
 ·rw [if_pos (by simpa using h6)]; simp [show ¬ W * H ≤ 4096 by omega]
 rw [if_neg (by simpa using h6), within_eq, within_eq]
 simp only [Option.bind_some]
 by_cases h7 : S ≥ 1 <;> by_cases h8 : S ≤ 1099511627776 <;> by_cases h9 : -1099511627776 ≤ X ∧ X ≤ 1099511627776 <;> by_cases h10 : -1099511627776 ≤ Y ∧ Y ≤ 1099511627776 <;> simp [h7, h8, h9, h10, show 1 ≤ W by omega, show 1 ≤ H by omega, show W ≤ 4096 by omega, show H ≤ 4096 by omega, show W * H ≤ 4096 by omega] <;> omega
def colr (l : List S39) (x y : Int) : Int := match ownr l x y with | some m => (l.getD m z39).f5 | none => 0
def picRow (l : List S39) (X S : Int) (W : Nat) (y : Int) : List Int := (List.range W).map fun (j : Nat) => colr l (X + (j : Int) * S) y
def pic (l : List S39) (X Y S : Int) (W n : Nat) : List Int := (List.range n).flatMap fun (i : Nat) => picRow l X S W (Y + (i : Int) * S)
theorem pic_succ (l : List S39) (X Y S : Int) (W n : Nat) : pic l X Y S W (n + 1) = pic l X Y S W n ++ picRow l X S W (Y + (n : Int) * S) := by
 unfold pic
 rw [List.range_succ, List.flatMap_append]
 simp
theorem pic_len (l : List S39) (X Y S : Int) (W n : Nat) : (pic l X Y S W n).length = n * W := by
 induction n with
 | zero => simp [pic]
 | succ n ih => rw [pic_succ, List.length_append, ih, Nat.succ_mul]; simp [picRow]
theorem set_rm (W : Nat) (g : Nat → Int) (c : Nat) (v : Int) : ((List.range W).map g).set c v = (List.range W).map fun j => if j = c then v else g j := by
 apply List.ext_getElem (by simp)
 intro j h1 h2
 simp only [List.getElem_set, List.getElem_map, List.getElem_range]
 by_cases h : c = j
 ·simp [h]
 ·simp [h, Ne.symm h]
theorem rm_congr (W : Nat) (g g' : Nat → Int) (h : ∀ j, j < W → g j = g' j) : (List.range W).map g = (List.range W).map g' := List.map_congr_left fun j hj => h j (by simpa using hj)
theorem js_le {S : Int} (hS : 1 ≤ S) (hS2 : S ≤ 1099511627776) {a b : Nat} (h : a ≤ b) (hb : b ≤ 4096) : 0 ≤ (a : Int) * S ∧ (a : Int) * S ≤ (b : Int) * S ∧ (b : Int) * S ≤ 4503599627370496 := by
 refine ⟨Int.mul_nonneg (by omega) (by omega), Int.mul_le_mul_of_nonneg_right (by omega) (by omega), ?_⟩
 have := Int.mul_le_mul (a := (b : Int)) (b := S) (c := 4096) (d := 1099511627776) (by omega) hS2 (by omega) (by omega)
 omega
def fillc (X S f1 col : Int) (g : Nat → Int) (c : Nat) : Nat → Int := fun j => if c ≤ j ∧ X + (j : Int) * S < f1 then col else g j
set_option maxHeartbeats 2000000 in
theorem draw_l2 (l : List S39) (x6 : List Int) (X Y S : Int) (W : Nat) (H row : Int) (R : List S56) (n44 n45 f0 f1 f2 H2 : Int) (hS : 1 ≤ S) (hS2 : S ≤ 1099511627776) (hX : -1099511627776 ≤ X ∧ X ≤ 1099511627776) (hW : W ≤ 4096) (hf : 0 ≤ f2 ∧ f2 < l.length) (r : List Int × Int) :
  ∀ (d c : Nat), c + d = W → ∀ g : Nat → Int, Ev (fun k => raster_Draw.l1 k l x6 ((List.range W).map (fillc X S f1 (rd_T39 l f2).f5 g c)) H row R n44 (wrap64 (n45 + 1)) X Y S (W : Int) H2) r →
   Ev (fun k => raster_Draw.l2 k l x6 ((List.range W).map g) (c : Int) H row R n44 n45 X Y S (W : Int) H2 f0 f1 f2) r := by
 intro d
 induction d with
 | zero =>
  intro c hc g h
  obtain ⟨K, hK⟩ := h
  refine ⟨K + 1, fun k hk => ?_⟩
  obtain ⟨k, rfl⟩ : ∃ m, k = m + 1 := ⟨k - 1, by omega⟩
  simp only [raster_Draw.l2]
  rw [if_neg (by omega), rm_congr W g (fillc X S f1 (rd_T39 l f2).f5 g c) (fun j hj => by unfold fillc; rw [if_neg (by omega)])]
  exact hK k (by omega)
 | succ d ih =>
  intro c hc g h
  have hj := js_le hS hS2 (a := c) (b := W) (by omega) hW
  by_cases h1 : X + (c : Int) * S < f1
  ·have h' := ih (c + 1) (by omega) (fun j => if j = c then (rd_T39 l f2).f5 else g j) (by
    rw [rm_congr W _ (fillc X S f1 (rd_T39 l f2).f5 g c) (fun j hj => by
     unfold fillc
     dsimp only
     by_cases e : j = c
     ·subst e; rw [if_neg (by omega), if_pos rfl, if_pos ⟨by omega, h1⟩]
     ·rw [if_neg e]
      by_cases e2 : c + 1 ≤ j ∧ X + (j : Int) * S < f1
      ·rw [if_pos e2, if_pos ⟨by omega, e2.2⟩]
      ·rw [if_neg e2, if_neg (fun e3 => e2 ⟨by omega, e3.2⟩)])]
    exact h)
   obtain ⟨K, hK⟩ := h'
   refine ⟨K + 1, fun k hk => ?_⟩
   obtain ⟨k, rfl⟩ : ∃ m, k = m + 1 := ⟨k - 1, by omega⟩
   have e1 : wrap64 ((c : Int) * S) = (c : Int) * S := w64 (by omega) (by omega)
   have e2 : wrap64 (X + (c : Int) * S) = X + (c : Int) * S := w64 (by omega) (by omega)
   have e3 : wrap64 ((c : Int) + 1) = ((c + 1 : Nat) : Int) := by rw [w64 (by omega) (by omega)]; omega
   simp only [raster_Draw.l2]
   have q1 : (c : Int) < (W : Int) := by omega
   have q2 : (c : Int) < (((List.range W).map g).length : Int) := by rw [List.length_map, List.length_range]; exact q1
   rw [if_pos q1, e1, e2, if_pos h1, if_pos hf.1, if_pos hf.2, if_pos (Int.natCast_nonneg c), if_pos q2, e3, Int.toNat_natCast, set_rm]
   exact hK k (by omega)
  ·obtain ⟨K, hK⟩ := h
   refine ⟨K + 1, fun k hk => ?_⟩
   obtain ⟨k, rfl⟩ : ∃ m, k = m + 1 := ⟨k - 1, by omega⟩
   have e1 : wrap64 ((c : Int) * S) = (c : Int) * S := w64 (by omega) (by omega)
   have e2 : wrap64 (X + (c : Int) * S) = X + (c : Int) * S := w64 (by omega) (by omega)
   simp only [raster_Draw.l2]
   have q1 : (c : Int) < (W : Int) := by omega
   rw [if_pos q1, e1, e2, if_neg h1, rm_congr W g (fillc X S f1 (rd_T39 l f2).f5 g c) (fun j hj => by
    unfold fillc
    rw [if_neg]
    rintro ⟨h2, h3⟩
    have := js_le hS hS2 (a := c) (b := j) h2 (by omega)
    omega)]
   exact hK k (by omega)
theorem ceil_le {d S : Int} (hd : 0 ≤ d) (hS : 1 ≤ S) (j : Int) : (d + S - 1) / S ≤ j ↔ d ≤ j * S := by
 have h1 := Int.emod_add_mul_ediv (d + S - 1) S
 have h2 := Int.emod_nonneg (d + S - 1) (show S ≠ 0 by omega)
 have h3 := Int.emod_lt_of_pos (d + S - 1) (show 0 < S by omega)
 generalize (d + S - 1) / S = q at h1 ⊢
 constructor
 ·intro h
  have := Int.mul_le_mul_of_nonneg_left h (show 0 ≤ S by omega)
  rw [Int.mul_comm j S]
  omega
 ·intro h
  rcases Int.lt_or_le j q with h4 | h4
  ·exfalso
   have := Int.mul_le_mul_of_nonneg_left (show j + 1 ≤ q by omega) (show 0 ≤ S by omega)
   rw [Int.mul_add, Int.mul_comm S j] at this
   omega
  ·exact h4
def inRun (R : List S56) (p : Int) : Bool := R.any fun r => decide (r.f0 ≤ p) && decide (p < r.f1)
def lineR (l : List S39) (X S y : Int) (R : List S56) : Nat → Int := fun j => if inRun R (X + (j : Int) * S) = true then colr l (X + (j : Int) * S) y else 0
set_option maxHeartbeats 2000000 in
theorem draw_l1 (l : List S39) (x6 : List Int) (X Y S y : Int) (W : Nat) (H row : Int) (R : List S56) (H2 : Int) (hS : 1 ≤ S) (hS2 : S ≤ 1099511627776) (hX : -1099511627776 ≤ X ∧ X ≤ 1099511627776) (hW : W ≤ 4096) (hR : RunOK l y X (X + (W : Int) * S) R) (hRl : R.length ≤ 1000000) (h6 : x6.length ≤ 100000000) (r : List Int × Int)
  (h : Ev (fun k => raster_Draw.l0 k l (x6 ++ (List.range W).map (lineR l X S y R)) H (wrap64 (row + 1)) X Y S (W : Int) H2) r) :
  ∀ (R2 R1 : List S56), R1 ++ R2 = R → Ev (fun k => raster_Draw.l1 k l x6 ((List.range W).map (lineR l X S y R1)) H row R (R.length : Int) (R1.length : Int) X Y S (W : Int) H2) r := by
 intro R2
 induction R2 with
 | nil =>
  intro R1 h1
  obtain rfl : R1 = R := by simpa using h1
  obtain ⟨K, hK⟩ := h
  refine ⟨K + 1, fun k hk => ?_⟩
  obtain ⟨k, rfl⟩ : ∃ m, k = m + 1 := ⟨k - 1, by omega⟩
  simp only [raster_Draw.l1]
  rw [if_neg (by omega), if_pos (by simp; omega)]
  exact hK k (by omega)
 | cons q R2 ih =>
  intro R1 h1
  have hq : q ∈ R := by rw [← h1]; simp
  have hb := hR.b1 q hq
  have hWS := js_le hS hS2 (a := 0) (b := W) (by omega) hW
  have hd : 0 ≤ q.f0 - X := by omega
  have hc := fun j => ceil_le hd hS j
  have hc0 : 0 ≤ (q.f0 - X + S - 1) / S := Int.ediv_nonneg (by omega) (by omega)
  obtain ⟨c, hcn⟩ := Int.eq_ofNat_of_zero_le hc0
  have hcW : c ≤ W := by have := (hc (W : Int)).2 (by omega); omega
  have ih' := ih (R1 ++ [q]) (by rw [← h1]; simp)
  have hmem : ∀ j : Nat, c ≤ j ↔ q.f0 ≤ X + (j : Int) * S := by
   intro j
   have := hc (j : Int)
   rw [hcn] at this
   constructor
   ·intro h2; have := this.1 (by omega); omega
   ·intro h2; have := this.2 (by omega); omega
  have hstep := draw_l2 l x6 X Y S W H row R (R.length : Int) (R1.length : Int) q.f0 q.f1 q.f2 H2 hS hS2 hX hW hb.2.2.2 r (W - c) c (by omega) (lineR l X S y R1) (by
   have e3 : wrap64 ((R1.length : Int) + 1) = ((R1 ++ [q]).length : Int) := by
    have : R1.length + (q :: R2).length = R.length := by rw [← h1]; simp
    simp at this ⊢
    rw [w64 (by omega) (by omega)]
   rw [e3, rm_congr W _ (lineR l X S y (R1 ++ [q])) (fun j hj => by
    unfold fillc lineR inRun
    rw [List.any_append]
    by_cases h2 : c ≤ j ∧ X + (j : Int) * S < q.f1
    ·have h3 := (hmem j).1 h2.1
     rw [if_pos h2, if_pos (by simp [h2.2, h3])]
     have h4 := hR.c1 q hq _ h3 h2.2
     unfold colr
     rw [h4]
     unfold rd_T39
     rfl
    ·rw [if_neg h2]
     have h3 : ¬ (q.f0 ≤ X + (j : Int) * S ∧ X + (j : Int) * S < q.f1) := fun h3 => h2 ⟨(hmem j).2 h3.1, h3.2⟩
     have h4 : ([q].any fun r => decide (r.f0 ≤ X + (j : Int) * S) && decide (X + (j : Int) * S < r.f1)) = false := by
      rw [List.any_cons, List.any_nil, Bool.or_false]
      by_cases g1 : q.f0 ≤ X + (j : Int) * S
      ·simp [g1, show ¬ X + (j : Int) * S < q.f1 from fun g2 => h3 ⟨g1, g2⟩]
      ·simp [g1]
     rw [h4, Bool.or_false])]
   exact ih')
  obtain ⟨K, hK⟩ := hstep
  refine ⟨K + 1, fun k hk => ?_⟩
  obtain ⟨k, rfl⟩ : ∃ m, k = m + 1 := ⟨k - 1, by omega⟩
  simp only [raster_Draw.l1]
  have hrr : rd_T56 R (R1.length : Int) = q := by rw [← h1]; exact rdr_mid _ _ _
  have hlen : R1.length + (q :: R2).length = R.length := by rw [← h1]; simp
  simp only [List.length_cons] at hlen
  have e1 : wrap64 (q.f0 - X) = q.f0 - X := w64 (by omega) (by omega)
  have e2 : wrap64 (q.f0 - X + S) = q.f0 - X + S := w64 (by omega) (by omega)
  have e3 : wrap64 (q.f0 - X + S - 1) = q.f0 - X + S - 1 := w64 (by omega) (by omega)
  have e4 : Int.tdiv (q.f0 - X + S - 1) S = (c : Int) := by rw [Int.tdiv_eq_ediv_of_nonneg (by omega)]; exact hcn
  have e5 : wrap64 (c : Int) = (c : Int) := w64 (by omega) (by omega)
  rw [if_pos (by omega), if_pos (by omega), if_pos (by omega), if_neg (by omega), hrr, e1, e2, e3, e4, e5]
  exact hK k (by omega)
theorem line_row (l : List S39) (X S y : Int) (W : Nat) (R : List S56) (hS : 1 ≤ S) (hS2 : S ≤ 1099511627776) (hW : W ≤ 4096) (hR : RunOK l y X (X + (W : Int) * S) R) : (List.range W).map (lineR l X S y R) = picRow l X S W y := by
 unfold picRow
 refine rm_congr W _ _ fun j hj => ?_
 unfold lineR
 by_cases h : inRun R (X + (j : Int) * S) = true
 ·rw [if_pos h]
 ·rw [if_neg h]
  unfold colr
  cases ho : ownr l (X + (j : Int) * S) y with
  | none => rfl
  | some n =>
   exfalso
   have h1 := js_le hS hS2 (a := j) (b := W) (by omega) hW
   have h2 : (j : Int) * S < (W : Int) * S := by
    have := Int.mul_le_mul_of_nonneg_right (show (j : Int) + 1 ≤ (W : Int) by omega) (show 0 ≤ S by omega)
    rw [Int.add_mul] at this
    omega
   obtain ⟨q, hq, h3, h4⟩ := hR.c2 (X + (j : Int) * S) (by omega) (by omega) n ho
   exact h (List.any_eq_true.2 ⟨q, hq, by simp [h3, h4]⟩)
set_option maxHeartbeats 2000000 in
theorem draw_l0 (l : List S39) (X Y S : Int) (W H : Nat) (hl : l.length ≤ 1000) (hG : okG X Y S (W : Int) (H : Int)) : ∀ (d n : Nat), n + d = H → Ev (fun k => raster_Draw.l0 k l (pic l X Y S W n) (H : Int) (n : Int) X Y S (W : Int) (H : Int)) (pic l X Y S W H, 0) := by
 obtain ⟨g1, g2, g3, g4, g5, g6, g7, g8, g9, g10, g11⟩ := hG
 intro d
 induction d with
 | zero =>
  intro n hn
  obtain rfl : n = H := by omega
  refine ⟨1, fun k hk => ?_⟩
  obtain ⟨k, rfl⟩ : ∃ m, k = m + 1 := ⟨k - 1, by omega⟩
  simp only [raster_Draw.l0]
  rw [if_neg (by omega)]
 | succ d ih =>
  intro n hn
  have hn' := js_le g6 g7 (a := n) (b := H) (by omega) (by omega)
  have hW' := js_le g6 g7 (a := 1) (b := W) (by omega) (by omega)
  obtain ⟨R, hRf, hR, hRl⟩ := runs_f l (Y + (n : Int) * S) X (X + (W : Int) * S) hl (by omega) (7 * l.length + 5) (by omega)
  have hEv := Ev.of (fun k => raster_Runs.mono l (Y + (n : Int) * S) X (X + (W : Int) * S) k) hRf
  have hrow := line_row l X S (Y + (n : Int) * S) W R g6 g7 (by omega) hR
  have hpl := pic_len l X Y S W n
  have hnW : n * W ≤ 4096 * 4096 := Nat.mul_le_mul (by omega) (by omega)
  have ih' := ih (n + 1) (by omega)
  rw [pic_succ, ← hrow] at ih'
  have e3 : wrap64 ((n : Int) + 1) = ((n + 1 : Nat) : Int) := by rw [w64 (by omega) (by omega)]; omega
  rw [← e3] at ih'
  obtain ⟨K1, hK1⟩ := draw_l1 l (pic l X Y S W n) X Y S (Y + (n : Int) * S) W (H : Int) (n : Int) R (H : Int) g6 g7 ⟨g8, g9⟩ (by omega) hR (by omega) (by omega) _ ih' R [] rfl
  obtain ⟨K2, hK2⟩ := hEv
  refine ⟨K1 + K2 + 1, fun k hk => ?_⟩
  obtain ⟨k, rfl⟩ : ∃ m, k = m + 1 := ⟨k - 1, by omega⟩
  have hRk : raster_Runs.f k l (Y + (n : Int) * S) X (X + (W : Int) * S) = some R := hK2 k (by omega)
  simp only [raster_Draw.l0]
  have e1 : wrap64 ((n : Int) * S) = (n : Int) * S := w64 (by omega) (by omega)
  have e2 : wrap64 (Y + (n : Int) * S) = Y + (n : Int) * S := w64 (by omega) (by omega)
  have e4 : wrap64 ((W : Int) * S) = (W : Int) * S := w64 (by omega) (by omega)
  have e5 : wrap64 (X + (W : Int) * S) = X + (W : Int) * S := w64 (by omega) (by omega)
  rw [if_pos (by omega), if_pos (by omega), if_pos (by omega), e1, e2, e4, e5, hRk]
  simp only [Option.bind_some]
  have hz : List.replicate ((W : Int)).toNat (0 : Int) = (List.range W).map (lineR l X S (Y + (n : Int) * S) []) := by
   rw [Int.toNat_natCast]
   apply List.ext_getElem (by simp)
   intro j h1 h2
   simp [lineR, inRun]
  rw [hz]
  exact hK1 k (by omega)
theorem draw_ok (l : List S39) (X Y S W H : Int) (hl : l.length ≤ 1000) (hG : okG X Y S W H) : Ev (fun k => raster_Draw.f k l X Y S W H) (pic l X Y S W.toNat H.toNat, 0) := by
 have hG' := hG
 obtain ⟨g1, g2, g3, g4, g5, g6, g7, g8, g9, g10, g11⟩ := hG'
 have eW : W = (W.toNat : Int) := by omega
 have eH : H = (H.toNat : Int) := by omega
 obtain ⟨K, hK⟩ := draw_l0 l X Y S W.toNat H.toNat hl (by rw [← eW, ← eH]; exact hG) H.toNat 0 (by omega)
 rw [← eW, ← eH] at hK
 refine ⟨K + 1, fun k hk => ?_⟩
 show raster_Draw.f k l X Y S W H = _
 unfold raster_Draw.f
 rw [right_eq X Y S W H k (by omega)]
 simp only [Option.bind_some]
 rw [if_pos (by simpa using hG)]
 exact hK k (by omega)
theorem rright_eq (X Y S W H : Int) : decoupageref28_Right.f X Y S W H = some (decide (okG X Y S W H)) := by
 unfold decoupageref28_Right.f okG
 by_cases h1 : W < 1
 ·rw [if_pos h1]; simp [show ¬ 1 ≤ W by omega]
 rw [if_neg h1]
 by_cases h2 : H < 1
 ·rw [if_pos h2]; simp [show ¬ 1 ≤ H by omega]
 rw [if_neg h2]
 by_cases h3 : W > 4096
 ·rw [if_pos h3]; simp [show ¬ W ≤ 4096 by omega]
 rw [if_neg h3, if_neg (by omega)]
 have e1 : Int.tdiv 4096 W = 4096 / W := Int.tdiv_eq_ediv_of_nonneg (by omega)
 have e2 : H ≤ 4096 / W ↔ H * W ≤ 4096 := Int.le_ediv_iff_mul_le (by omega)
 have e3 : 4096 / W ≤ 4096 := Int.ediv_le_self _ (by omega)
 have e4 : 0 ≤ 4096 / W := Int.ediv_nonneg (by omega) (by omega)
 rw [e1, w64 (by omega) (by omega)]
 rw [Int.mul_comm] at e2
 by_cases h6 : H > 4096 / W
 ·rw [if_pos h6]; simp [show ¬ W * H ≤ 4096 by omega]
 rw [if_neg h6]
 have h7 : W * H ≤ 4096 := by omega
 by_cases g1 : S ≥ 1 <;> by_cases g2 : S ≤ 1099511627776 <;> by_cases g3 : -1099511627776 ≤ X <;> by_cases g4 : X ≤ 1099511627776 <;> by_cases g5 : -1099511627776 ≤ Y <;> by_cases g6 : Y ≤ 1099511627776 <;> simp [g1, g2, g3, g4, g5, g6, h7, show 1 ≤ W by omega, show 1 ≤ H by omega, show W ≤ 4096 by omega, show H ≤ 4096 by omega] <;> omega
theorem rcolor_eq (l : List S39) (x y : Int) (k : Nat) (hk : l.length < k) (hl : l.length ≤ 1000) : decoupageref26_Color.f k l x y = some (colr l x y) := by
 unfold decoupageref26_Color.f
 rw [rown_eq l x y k hk (by omega)]
 simp only [Option.bind_some]
 unfold colr
 cases h : ownr l x y with
 | none => simp [ownI]
 | some m =>
  have := ownr_lt h
  rw [show ownI (some m) = (m : Int) from rfl, if_neg (by omega), if_pos (by omega), if_pos (by omega), rdi]
theorem rdraw_l1 (l : List S39) (hl : l.length ≤ 1000) (base : List Int) (hb : base.length ≤ 100000000) (X Y S : Int) (W H n : Nat) (hG : okG X Y S (W : Int) (H : Int)) (hn : n < H) (r : List Int)
  (h : Ev (fun k => decoupageref28_Draw.l0 k l (base ++ picRow l X S W (Y + (n : Int) * S)) (H : Int) (wrap64 ((n : Int) + 1)) X Y S (W : Int) (H : Int)) r) :
  ∀ (d c : Nat), c + d = W → Ev (fun k => decoupageref28_Draw.l1 k l (base ++ (List.range c).map fun (j : Nat) => colr l (X + (j : Int) * S) (Y + (n : Int) * S)) (n : Int) (H : Int) (n : Int) (W : Int) (c : Int) X Y S (W : Int) (H : Int)) r := by
 obtain ⟨g1, g2, g3, g4, g5, g6, g7, g8, g9, g10, g11⟩ := hG
 intro d
 induction d with
 | zero =>
  intro c hc
  obtain rfl : c = W := by omega
  obtain ⟨K, hK⟩ := h
  refine ⟨K + 1, fun k hk => ?_⟩
  obtain ⟨k, rfl⟩ : ∃ m, k = m + 1 := ⟨k - 1, by omega⟩
  simp only [decoupageref28_Draw.l1]
  rw [if_neg (by omega)]
  exact hK k (by omega)
 | succ d ih =>
  intro c hc
  have q1 : (c : Int) < (W : Int) := by omega
  have q2 : (base ++ (List.range c).map fun (j : Nat) => colr l (X + (j : Int) * S) (Y + (n : Int) * S)).length < 17592186044416 := by
   rw [List.length_append, List.length_map, List.length_range]
   have hc2 : c ≤ 4096 := by omega
   clear h ih q1 g4 g5 hn g2 g1 g3 hc hl
   omega
  obtain ⟨K, hK⟩ := ih (c + 1) (by omega)
  refine ⟨K + l.length + 2, fun k hk => ?_⟩
  obtain ⟨k, rfl⟩ : ∃ m, k = m + 1 := ⟨k - 1, by omega⟩
  have h1 := js_le g6 g7 (a := c) (b := W) (by omega) (by omega)
  have h2 := js_le g6 g7 (a := n) (b := H) (by omega) (by omega)
  have e1 : wrap64 ((c : Int) * S) = (c : Int) * S := w64 (by omega) (by omega)
  have e2 : wrap64 (X + (c : Int) * S) = X + (c : Int) * S := w64 (by omega) (by omega)
  have e3 : wrap64 ((n : Int) * S) = (n : Int) * S := w64 (by omega) (by omega)
  have e4 : wrap64 (Y + (n : Int) * S) = Y + (n : Int) * S := w64 (by omega) (by omega)
  have e5 : wrap64 ((c : Int) + 1) = ((c + 1 : Nat) : Int) := by rw [w64 (by omega) (by omega)]; omega
  simp only [decoupageref28_Draw.l1]
  rw [if_pos q1, e1, e2, e3, e4, rcolor_eq l _ _ k (by omega) hl]
  simp only [Option.bind_some]
  rw [if_pos q2, e5]
  have h3 := hK k (by omega)
  dsimp only at h3
  rw [List.range_succ, List.map_append] at h3
  rw [List.append_assoc]
  exact h3
theorem rdraw_l0 (l : List S39) (hl : l.length ≤ 1000) (X Y S : Int) (W H : Nat) (hG : okG X Y S (W : Int) (H : Int)) : ∀ (d n : Nat), n + d = H → Ev (fun k => decoupageref28_Draw.l0 k l (pic l X Y S W n) (H : Int) (n : Int) X Y S (W : Int) (H : Int)) (pic l X Y S W H) := by
 have hG' := hG
 obtain ⟨g1, g2, g3, g4, g5, g6, g7, g8, g9, g10, g11⟩ := hG'
 intro d
 induction d with
 | zero =>
  intro n hn
  obtain rfl : n = H := by omega
  refine ⟨1, fun k hk => ?_⟩
  obtain ⟨k, rfl⟩ : ∃ m, k = m + 1 := ⟨k - 1, by omega⟩
  simp only [decoupageref28_Draw.l0]
  rw [if_neg (by omega)]
 | succ d ih =>
  intro n hn
  have ih' := ih (n + 1) (by omega)
  rw [pic_succ] at ih'
  have e3 : wrap64 ((n : Int) + 1) = ((n + 1 : Nat) : Int) := by rw [w64 (by omega) (by omega)]; omega
  rw [← e3] at ih'
  have hnW : n * W ≤ 4096 * 4096 := Nat.mul_le_mul (by omega) (by omega)
  have hpl := pic_len l X Y S W n
  obtain ⟨K, hK⟩ := rdraw_l1 l hl (pic l X Y S W n) (by omega) X Y S W H n hG (by omega) _ ih' W 0 (by omega)
  refine ⟨K + 1, fun k hk => ?_⟩
  obtain ⟨k, rfl⟩ : ∃ m, k = m + 1 := ⟨k - 1, by omega⟩
  have q1 : (n : Int) < (H : Int) := by omega
  have h3 := hK k (by omega)
  dsimp only at h3
  rw [List.range_zero, List.map_nil, List.append_nil] at h3
  simp only [decoupageref28_Draw.l0]
  rw [if_pos q1]
  exact h3
theorem rdraw_ok (l : List S39) (X Y S W H : Int) (hl : l.length ≤ 1000) (hG : okG X Y S W H) : Ev (fun k => decoupageref28_Draw.f k l X Y S W H) (pic l X Y S W.toNat H.toNat) := by
 have hG' := hG
 obtain ⟨g1, g2, g3, g4, g5, g6, g7, g8, g9, g10, g11⟩ := hG'
 have eW : W = (W.toNat : Int) := by omega
 have eH : H = (H.toNat : Int) := by omega
 obtain ⟨K, hK⟩ := rdraw_l0 l hl X Y S W.toNat H.toNat (by rw [← eW, ← eH]; exact hG) H.toNat 0 (by omega)
 rw [← eW, ← eH] at hK
 exact ⟨K, fun k hk => hK k hk⟩
theorem one_le_ite (p : Prop) [Decidable p] : (1 ≤ if p then 1 else 0) ↔ p := by by_cases h : p <;> simp [h]
theorem inl_harm (a b : List S39) (x y : Int) : inl (harm a b) x y ↔ inl (((midA a b) ++ (midB a b)).map seen) x y := by
 unfold harm
 rw [inl_cnt, cnt_join]
 exact one_le_ite _
theorem harm_len (a b : List S39) (ha : a.length + b.length ≤ 90) : (harm a b).length ≤ 40000 := by
 have h1 := midA_len a b
 have h2 := midA_len b a
 rw [← midB_eq] at h2
 exact join_len _ (by simp; omega)
def lastC (l : List S39) (x y : Int) (c : Option Int) : Option Int := l.foldl (fun c i => if shows i x y then some i.f5 else c) c
theorem lastC_app (l m : List S39) (x y : Int) (c : Option Int) : lastC (l ++ m) x y c = lastC m x y (lastC l x y c) := by unfold lastC; rw [List.foldl_append]
theorem lastC_own (l : List S39) (x y : Int) : lastC l x y none = (ownr l x y).map fun m => (l.getD m z39).f5 := by
 induction l using snoc_ind with
 | h0 => rfl
 | hs l i ih =>
  rw [lastC_app, ownr_snoc]
  have e : lastC [i] x y (lastC l x y none) = if shows i x y then some i.f5 else lastC l x y none := rfl
  rw [e]
  by_cases h : shows i x y
  ·simp [h]
  ·rw [if_neg h, if_neg h, ih]
   cases ho : ownr l x y with
   | none => rfl
   | some m =>
    have hm := ownr_lt ho
    simp only [Option.map_some, List.getD_eq_getElem?_getD]
    rw [List.getElem?_append_left hm]
theorem lastC_none (l : List S39) (x y : Int) (h : ∀ i ∈ l, ¬ shows i x y) : ∀ c, lastC l x y c = c := by
 induction l with
 | nil => intro c; rfl
 | cons i l ih =>
  intro c
  have e : lastC (i :: l) x y c = lastC l x y (if shows i x y then some i.f5 else c) := rfl
  rw [e, if_neg (h i (by simp)), ih fun j hj => h j (by simp [hj])]
theorem shows_alk {a b : S39} (h : alk a b = true) (x y : Int) : (shows a x y ↔ shows b x y) ∧ a.f5 = b.f5 := by
 obtain ⟨h1, h2, h3, h4, h5⟩ := (alk_iff a b).1 h
 unfold shows
 rw [h1, h2, h3, h4]
 exact ⟨Iff.rfl, h5⟩
theorem lastC_alk : ∀ (a b : List S39) (n : Nat), n ≤ pre a b → ∀ x y c, lastC (a.take n) x y c = lastC (b.take n) x y c
 | _, _, 0, _, _, _, _ => by simp [lastC]
 | [], _, n + 1, h, _, _, _ => by simp [pre] at h
 | _ :: _, [], n + 1, h, _, _, _ => by simp [pre] at h
 | a :: as_, b :: bs, n + 1, h, x, y, c => by
  unfold pre at h
  split at h
  ·rename_i hc
   have e : ∀ (i : S39) l, lastC (i :: l) x y c = lastC l x y (if shows i x y then some i.f5 else c) := fun _ _ => rfl
   obtain ⟨g1, g2⟩ := shows_alk hc x y
   rw [List.take_succ_cons, List.take_succ_cons, e, e, lastC_alk as_ bs n (by omega)]
   congr 1
   by_cases hs : shows a x y
   ·rw [if_pos hs, if_pos (g1.1 hs), g2]
   ·rw [if_neg hs, if_neg (fun hb => hs (g1.2 hb))]
  ·omega
theorem lastC_rev : ∀ (a b : List S39) (n : Nat), n ≤ pre a b → ∀ x y c, lastC (a.take n).reverse x y c = lastC (b.take n).reverse x y c
 | _, _, 0, _, _, _, _ => by simp [lastC]
 | [], _, n + 1, h, _, _, _ => by simp [pre] at h
 | _ :: _, [], n + 1, h, _, _, _ => by simp [pre] at h
 | a :: as_, b :: bs, n + 1, h, x, y, c => by
  unfold pre at h
  split at h
  ·rename_i hc
   have e : ∀ (i : S39) c, lastC [i] x y c = if shows i x y then some i.f5 else c := fun _ _ => rfl
   obtain ⟨g1, g2⟩ := shows_alk hc x y
   rw [List.take_succ_cons, List.take_succ_cons, List.reverse_cons, List.reverse_cons, lastC_app, lastC_app, e, e, lastC_rev as_ bs n (by omega)]
   by_cases hs : shows a x y
   ·rw [if_pos hs, if_pos (g1.1 hs), g2]
   ·rw [if_neg hs, if_neg (fun hb => hs (g1.2 hb))]
  ·omega
theorem not_shows (i : S39) (x y : Int) (h : ¬ has (seen i) x y) : ¬ shows i x y := by
 intro hs
 exact h ((has_meet _ _ _ _).2 ⟨hs.1, hs.2.1⟩)
theorem three (a b : List S39) : a = a.take (pre a b) ++ (midA a b ++ ((a.drop (pre a b)).reverse.take (pre (a.drop (pre a b)).reverse (b.drop (pre a b)).reverse)).reverse) := by
 have e : midA a b = ((a.drop (pre a b)).reverse.drop (pre (a.drop (pre a b)).reverse (b.drop (pre a b)).reverse)).reverse := rfl
 rw [e, ← List.reverse_append, List.take_append_drop, List.reverse_reverse, List.take_append_drop]
theorem lastC_harm (a b : List S39) (x y : Int) (h : ¬ inl (harm a b) x y) : lastC a x y none = lastC b x y none := by
 rw [inl_harm, List.map_append, inl_app] at h
 have hA : ∀ i ∈ midA a b, ¬ shows i x y := fun i hi => not_shows i x y fun hs => h (.inl ⟨seen i, List.mem_map.2 ⟨i, hi, rfl⟩, hs⟩)
 have hB : ∀ i ∈ midA b a, ¬ shows i x y := fun i hi => not_shows i x y fun hs => h (.inr ⟨seen i, List.mem_map.2 ⟨i, by rw [midB_eq]; exact hi, rfl⟩, hs⟩)
 have ea := three a b
 have eb := three b a
 have e1 : lastC a x y none = lastC (((a.drop (pre a b)).reverse.take (pre (a.drop (pre a b)).reverse (b.drop (pre a b)).reverse)).reverse) x y (lastC (a.take (pre a b)) x y none) := by
  conv => lhs; rw [ea]
  rw [lastC_app, lastC_app, lastC_none _ x y hA]
 have e2 : lastC b x y none = lastC (((b.drop (pre b a)).reverse.take (pre (b.drop (pre b a)).reverse (a.drop (pre b a)).reverse)).reverse) x y (lastC (b.take (pre b a)) x y none) := by
  conv => lhs; rw [eb]
  rw [lastC_app, lastC_app, lastC_none _ x y hB]
 rw [e1, e2, pre_comm b a, pre_comm (List.drop (pre a b) b).reverse, lastC_alk a b _ (Nat.le_refl _), lastC_rev _ _ _ (Nat.le_refl _)]
end Go.Proofs.Ytppklhfiajjhmaa.Pure
end
section
namespace Go.Proofs.Ytppklhfiajjhmaa.Ti
open Go Go.RowKit Go.Proofs.Ytppklhfiajjhmaa.Y Go.Proofs.Ytppklhfiajjhmaa.PPT Go.Proofs.YtppklhfiajjhmaaW.PrintWords Go.Proofs.YtppklhfiajjhmaaW.PrintLast
set_option linter.unusedVariables false
set_option linter.unusedSimpArgs false
theorem lays52 : Go.Proofs.SlLaysE0.n41 Try.prog ⟨fun | 41 => 52 | n => n, fun | 22 => 22 | 23 => 39 | 4 => 4 | n => n, fun | n => n⟩ := {
 mixed := by kernel_rfl
 f41 := ⟨Try.f52.name, by decide, Try.func52.trans (congrArg some (by kernel_rfl))⟩
 t4 := Try.underlying4
 a4 := Try.isAgg4
 z4 := Try.sizeOf4
 v4 := Try.zeroValue4
 t22 := Try.underlying22
 a22 := Try.isAgg22
 z22 := Try.sizeOf22
 v22 := Try.zeroValue22 }
theorem info39 : ∃ i z, Try.prog.info? 39 = some i ∧ i.zero = some z ∧ i.size = 15 ∧ i.bytes = 120 ∧ z.cells.size = 15 := by
 have h1 : (Try.prog.info? 39).map (fun i => (i.size, i.bytes)) = some (15, 120) := by kernel_rfl
 have h2 : zeroCells Try.prog 39 = some (List.replicate 15 (.int .i64 0)) := by kernel_rfl
 obtain ⟨i, hi, he⟩ := Option.map_eq_some_iff.1 h1
 simp only [Prod.mk.injEq] at he
 unfold zeroCells at h2
 rw [hi] at h2
 simp only [Option.bind_some] at h2
 obtain ⟨z, hz, hz2⟩ := Option.map_eq_some_iff.1 h2
 refine ⟨i, z, hi, hz, he.1, he.2, ?_⟩
 have := congrArg List.length hz2
 simpa using this
def cloneG (T : Nat → Option (List (List Int))) : List MV → (Nat → Option Blk) → (Blk → (Nat → MV) → Option Out) → Option Out := fun args rd k => match args with
 | [a] => match rowsOf T (i64s 15) rd a with
  | some l => bif decide (0 < l.length ∧ l.length ≤ 1000) then k ⟨.recs (i64s 15) l, 39⟩ (fun b => .va b 0 l.length 15) else none
  | none => none
 | _ => none
theorem cloneG_ok {T : Nat → Option (List (List Int))} {X : Env} (hT : ∀ B w x, X B w x → outside (i64s 15) T B w x) : NOk Try.prog X 52 (cloneG T) := by
 intro args rd k r hG
 unfold cloneG at hG
 split at hG
 ·rename_i a
  split at hG
  ·rename_i l hl
   cases hd : decide (0 < l.length ∧ l.length ≤ 1000) with
   | false => rw [hd] at hG; simp at hG
   | true =>
   rw [hd] at hG
   simp only [cond_true] at hG
   simp only [decide_eq_true_eq] at hd
   refine ⟨_, _, hG, rfl, fun base w0 σ us w hX hb hn hu hr => ?_⟩
   simp only [RVs] at hu
   obtain ⟨u0, r0, rfl, h0, rfl⟩ := hu
   obtain ⟨A, c, rfl, hc, hC⟩ := rowsOf_ok hl (hT _ _ _ hX) hb h0 (fun b k hb' hk => hr b k (reach_l (by simp [refsL, hb'])) hk)
   obtain ⟨ad, rfl, ⟨_, hsp⟩, hcell⟩ := hC hd.1
   obtain ⟨b, off, spot⟩ := ad
   simp only at hsp
   subst hsp
   obtain ⟨i, z, hi, hz, hs, hby, hzs⟩ := info39
   have hlen := rowsV_len (i64s 15) l
   refine Calls.mono (AnyE.slices_Clone lays52 i z 15 120 hi hz hs hby hzs (by omega) (fun w => run_size (by kernel_rfl) w) b off l.length c (rowsV (i64s 15) l) w (by rw [hlen]; simp [i64s]) (by simp [maxLen]; omega) (by omega) ?_ (rowsV_one _ _)) ?_
   ·intro j u hj
    have hlt := (List.getElem?_eq_some_iff.1 hj).1
    rw [hlen] at hlt
    simp only [i64s, List.length_replicate] at hlt
    have hq : j / 15 < l.length := by omega
    have hrl : j % 15 < (recV (i64s 15) 0 (l.getD (j / 15) [])).length := by rw [recV_len]; simp only [i64s, List.length_replicate]; omega
    have h1 := hcell (j / 15) hq (j % 15) _ (List.getElem?_eq_getElem hrl)
    have h2 := rowsV_get hq (List.getElem?_eq_getElem hrl)
    simp only [i64s, List.length_replicate] at h1 h2
    rw [show j / 15 * 15 + j % 15 = j by omega] at h1 h2
    rw [addr_add] at h1
    simp only [i64s] at hj
    rw [hj] at h2
    simp only [Option.some.injEq] at h2
    rw [h1, h2]
   ·rintro e w' ⟨v, rfl, ho, _, hB⟩
    exact ⟨v, rfl, fresh_own ho rfl rfl, hB⟩
  ·cases hG
 ·cases hG
theorem ints_own {w' : World} {base : Nat} {ok : Nat → Prop} {v : Value} {r : List Int} (h : Kd.R (Kd.int .i64) 2 w' base ok v r) : w'.ownsRow base 2 1 v r.length (rowsV (i64s 1) (r.map fun v => [v])) := by
 obtain ⟨_, inner, ho, hr⟩ := h
 have e : inner = rowsV (i64s 1) (r.map fun v => [v]) := by
  obtain ⟨h1, h2⟩ := hr
  apply List.ext_getElem?
  intro i
  have hlen : (rowsV (i64s 1) (r.map fun v => [v])).length = r.length := by rw [rowsV_len]; simp [i64s]
  have h1' : inner.length = r.length * 1 := h1
  by_cases hi : i < r.length
  ·have h3 := h2 i r[i] (List.getElem?_eq_getElem hi)
   have h4 : (inner.drop (i * 1)).take 1 = [.int .i64 r[i]] := (Kd.int .i64).K_of_M h3
   have h5 : inner[i]? = ((inner.drop (i * 1)).take 1)[0]? := by
    rw [List.getElem?_take, if_pos (by omega), List.getElem?_drop]
    congr 1
    omega
   have h6 := rowsV_get (sh := i64s 1) (l := r.map fun v => [v]) (j := i) (i := 0) (u := .int .i64 r[i]) (by simpa using hi) (by
    have eg : (r.map fun v => [v]).getD i [] = [r[i]] := by simp [List.getD_eq_getElem?_getD, hi]
    rw [eg]; rfl)
   rw [h5, h4]
   have : i * (i64s 1).length + 0 = i := by simp [i64s]
   rw [this] at h6
   rw [h6]
   rfl
  ·rw [List.getElem?_eq_none (by omega), List.getElem?_eq_none (by omega)]
 rw [← e]
 exact ho
theorem Fresh.tup {σ : Sg} {w w' : World} {blk : Blk} {vf : Nat → MV} {u : Value} (h : Fresh σ w w' blk vf u) (n : Int) : Fresh σ w w' blk (fun b => .tup [vf b, iv n]) (.tuple #[u, .int .i64 n]) := by
 have key : ∀ τ b, RV τ (vf b) u → RV τ (.tup [vf b, iv n]) (.tuple #[u, .int .i64 n]) := by
  intro τ b h
  simp only [RV, RVs]
  exact ⟨_, ⟨_, _, rfl, h, _, _, rfl, rfl, rfl⟩, rfl⟩
 rcases h with ⟨g, cs, rest, h1, h2, h3, h4⟩ | h
 ·exact .inl ⟨g, cs, rest, h1, h2, h3, fun τ b e1 e2 e3 e4 => key τ b (h4 τ b e1 e2 e3 e4)⟩
 ·exact .inr (fun τ b e1 => key τ b (h τ b e1))
def drawG : List MV → (Nat → Option Blk) → (Blk → (Nat → MV) → Option Out) → Option Out := fun args rd k => match args with
 | [.val (.slice none 0 0), .agg [.val (.int .i64 x), .val (.int .i64 y), .val (.int .i64 s), .val (.int .i64 wi), .val (.int .i64 hi)]] => bif decide (Pure.okG x y s wi hi) then
   k ⟨.recs (i64s 1) ((Pure.pic [] x y s wi.toNat hi.toNat).map fun v => [v]), 2⟩ (fun b => .tup [.va b 0 (Pure.pic [] x y s wi.toNat hi.toNat).length 1, iv 0]) else none
 | _ => none
theorem drawG_ok {X : Env} : NOk Try.prog X 28 drawG := by
 intro args rd k r hG
 unfold drawG at hG
 split at hG
 ·rename_i x y s wi hi
  cases hd : decide (Pure.okG x y s wi hi) with
  | false => rw [hd] at hG; simp at hG
  | true =>
   rw [hd] at hG
   simp only [cond_true] at hG
   obtain ⟨K, hK⟩ := Pure.draw_ok [] x y s wi hi (by simp) (of_decide_eq_true hd)
   refine ⟨_, _, hG, rfl, fun base w0 σ us w hX hb hn hu hr => ?_⟩
   have hus := (pls_ok (σ := σ) [.val (.slice none 0 0), .agg [.val (.int .i64 x), .val (.int .i64 y), .val (.int .i64 s), .val (.int .i64 wi), .val (.int .i64 hi)]] _ rfl us).1 hu
   subst hus
   refine Calls.mono (raster_Draw.calls K none 0 [] x y s wi hi _ 0 w (Kd.C_nil _ _) (Nat.le_refl _) (hK K (Nat.le_refl K))) ?_
   rintro e' w' ⟨v, rfl, hR, hB⟩
   exact ⟨_, rfl, Fresh.tup (fresh_own (ints_own hR) (by simp) rfl) 0, hB⟩
 ·cases hG
noncomputable abbrev E := EX Try.prog
theorem E_ok : EqOk Try.prog E := EX_ok Try.prog
theorem mixed : Try.prog.follows .mixedOrders = true := by kernel_rfl
noncomputable def C1 : Ctx := addR C0 51 (ownerG T0)
noncomputable def C2 : Ctx := addQ C1 53 meetG
noncomputable def C3 : Ctx := addQ C2 55 emptyG
noncomputable def C4 : Ctx := addN C3 18 (harmG T0)
noncomputable def C5 : Ctx := addN C4 52 (cloneG T0)
noncomputable def C6 : Ctx := addN C5 28 drawG
noncomputable def C7 : Ctx := addI C6 72 (inlG Try.prog E C6 3 72)
noncomputable def C8 : Ctx := addR C7 65 (toR1 (runF Try.prog E C7 3 65))
noncomputable def C9 : Ctx := addR C8 54 (toR1 (runF Try.prog E C8 3 54))
noncomputable def C10 : Ctx := addI C9 56 (inlG Try.prog E C9 5 56)
noncomputable def C11 : Ctx := addI C10 36 (inlG Try.prog E C10 5 36)
noncomputable def C12 : Ctx := addI C11 35 (inlG Try.prog E C11 3 35)
noncomputable def C13 : Ctx := addI C12 41 (inlG Try.prog E C12 3 41)
theorem C1_ok : COk Try.prog C1 := addR_ok (C0_ok _) (ownerG_ok (fun B w x _ => T0_out _ B w x)) (fnOk_of Try.func51 (by kernel_rfl) (by kernel_rfl))
theorem C2_ok : COk Try.prog C2 := addQ_ok C1_ok meetG_ok (fnOk_of Try.func53 (by kernel_rfl) (by kernel_rfl))
theorem C3_ok : COk Try.prog C3 := addQ_ok C2_ok emptyG_ok (fnOk_of Try.func55 (by kernel_rfl) (by kernel_rfl))
theorem C4_ok : COk Try.prog C4 := addN_ok C3_ok (harmG_ok (fun B w x _ => T0_out _ B w x)) (fnOk_of Try.func18 (by kernel_rfl) (by kernel_rfl))
theorem C5_ok : COk Try.prog C5 := addN_ok C4_ok (cloneG_ok (fun B w x _ => T0_out _ B w x)) (fnOk_of Try.func52 (by kernel_rfl) (by kernel_rfl))
theorem C6_ok : COk Try.prog C6 := addN_ok C5_ok drawG_ok (fnOk_of Try.func28 (by kernel_rfl) (by kernel_rfl))
theorem C7_ok : COk Try.prog C7 := addI_ok C6_ok (inl_ok E_ok C6_ok mixed _ _) (fnOk_of Try.func72 (by kernel_rfl) (by kernel_rfl))
theorem C8_ok : COk Try.prog C8 := addR_ok C7_ok (Q_run E_ok C7_ok mixed true_stable 3 _) (fnOk_of Try.func65 (by kernel_rfl) (by kernel_rfl))
theorem C9_ok : COk Try.prog C9 := addR_ok C8_ok (Q_run E_ok C8_ok mixed true_stable 3 _) (fnOk_of Try.func54 (by kernel_rfl) (by kernel_rfl))
theorem C10_ok : COk Try.prog C10 := addI_ok C9_ok (inl_ok E_ok C9_ok mixed _ _) (fnOk_of Try.func56 (by kernel_rfl) (by kernel_rfl))
theorem C11_ok : COk Try.prog C11 := addI_ok C10_ok (inl_ok E_ok C10_ok mixed _ _) (fnOk_of Try.func36 (by kernel_rfl) (by kernel_rfl))
theorem C12_ok : COk Try.prog C12 := addI_ok C11_ok (inl_ok E_ok C11_ok mixed _ _) (fnOk_of Try.func35 (by kernel_rfl) (by kernel_rfl))
theorem C13_ok : COk Try.prog C13 := addI_ok C12_ok (inl_ok E_ok C12_ok mixed _ _) (fnOk_of Try.func41 (by kernel_rfl) (by kernel_rfl))
set_option maxRecDepth 100000 in
theorem awake_x : xfun Try.prog E C13 3 33 [] [] fin = some (.val (.bool true), []) := by kernel_rfl
def awakeG : List MV → Option MV
 | [] => some (.val (.bool true))
 | _ => none
theorem awakeG_ok {X : Env} : QOk Try.prog X 33 (toQ awakeG) := Q_of_x E_ok C13_ok (fun _ _ _ => trivial) mixed (fun args v h => by
 unfold awakeG at h
 split at h
 ·injection h with h; subst h
  exact ⟨⟨_, rfl⟩, ⟨_, rfl⟩, awake_x⟩
 ·cases h)
end Go.Proofs.Ytppklhfiajjhmaa.Ti
end
section
namespace Go.Proofs.Ytppklhfiajjhmaa.Ti
open Go Go.RowKit Go.Proofs.Ytppklhfiajjhmaa.Y
set_option linter.unusedVariables false
set_option linter.unusedSimpArgs false
def ownB (l : List (List Int)) (x y : Int) : Bool := (Pure.ownr (l.map dec39) x y).isSome
def ownN (l : List (List Int)) (x y : Int) : Int := match Pure.ownr (l.map dec39) x y with
 | some m => (m : Int)
 | none => 0
def ownG : List MV → (Nat → Option Blk) → KV → Option Out := fun args rd k => match args with
 | [a, .val (.int .i64 x), .val (.int .i64 y)] => match rowsC T0 (i64s 15) rd a with
  | (c, some l) => bif c then (bif decide (l.length ≤ 1000) then k (.tup [iv (ownN l x y), .val (.bool (ownB l x y))]) else none) else none
  | (_, none) => none
 | _ => none
theorem ownG_ok {X : Env} : QOk Try.prog X 51 ownG := by
 intro args rd k r hG
 unfold ownG at hG
 split at hG
 ·rename_i a x y
  split at hG
  ·rename_i c l hl0
   cases c with
   | false => simp at hG
   | true =>
   simp only [cond_true] at hG
   have hl := rowsC_ok hl0
   cases hd : decide (l.length ≤ 1000) with
   | false => rw [hd] at hG; simp at hG
   | true =>
   rw [hd] at hG
   simp only [cond_true] at hG
   have hd' : l.length ≤ 1000 := of_decide_eq_true hd
   refine ⟨_, hG, fun base w0 σ us w hX hb hn hu hr => ?_⟩
   simp only [RVs] at hu
   obtain ⟨u0, r0, rfl, h0, u1, r1, rfl, h1, u2, r2, rfl, h2, rfl⟩ := hu
   have e1 := h1.val_inv
   have e2 := h2.val_inv
   subst e1; subst e2
   obtain ⟨A, c, rfl, hc, hC⟩ := items_C (rowsOf_ok hl (T0_out _ base w0 σ.x) hb h0 (fun b k hb' hk => hr b k (reach_l (by simp [refsL, hb'])) hk)) hd'
   have hf := Pure.of_eq (l.map dec39) x y 1100 (by rw [List.length_map]; omega) (by rw [List.length_map]; omega)
   refine Calls.mono (PPT.owner_Of.calls 1100 A c (l.map dec39) x y (ownN l x y) (ownB l x y) w hC hc ?_) ?_
   ·rw [hf]
    unfold ownN ownB
    cases Pure.ownr (l.map dec39) x y <;> rfl
   ·rintro e w' ⟨rfl, hB⟩
    exact ⟨_, rfl, by simp [RV, RVs], hB⟩
  ·cases hG
 ·cases hG
noncomputable def A1 : Ctx := addR C0 51 ownG
noncomputable def A2 : Ctx := addI A1 72 (inlG Try.prog E A1 3 72)
theorem A1_ok : COk Try.prog A1 := addR_ok (C0_ok _) ownG_ok (fnOk_of Try.func51 (by kernel_rfl) (by kernel_rfl))
theorem A2_ok : COk Try.prog A2 := addI_ok A1_ok (inl_ok E_ok A1_ok mixed _ _) (fnOk_of Try.func72 (by kernel_rfl) (by kernel_rfl))
set_option maxRecDepth 100000 in
theorem spanNf (X Y S W H fr x0 x1 many : Int) (c0 : KM) : xfun Try.prog E A2 3 65 [.ptr 0 0, iv fr, iv x0, iv x1, iv many] [some ⟨.rlst [iv X, iv Y, iv S, iv W, iv H, .any, .any], 90⟩] c0 =
  bif decide (x0 ≤ fr) then bif decide (x1 ≤ fr) then c0 (MV.tup [iv (if many < 0 then many else 0), iv (if (if many < 0 then many else 0) < if many < 0 then many else 0 then if many < 0 then many else 0 else if many < 0 then many else 0)]) [some { row := Row.rlst [iv X, iv Y, iv S, iv W, iv H, MV.any, MV.any], ty := 90 }] else bif !decide (S = 0) then c0 (MV.tup [iv (if many < 0 then many else 0), iv (if (if many < 0 then many else 0) < if many < IntKind.wrap IntKind.i64 (Int.tdiv (IntKind.wrap IntKind.i64 (IntKind.wrap IntKind.i64 (IntKind.wrap IntKind.i64 (x1 - fr) + S) - 1)) S) then many else IntKind.wrap IntKind.i64 (Int.tdiv (IntKind.wrap IntKind.i64 (IntKind.wrap IntKind.i64 (IntKind.wrap IntKind.i64 (x1 - fr) + S) - 1)) S) then if many < IntKind.wrap IntKind.i64 (Int.tdiv (IntKind.wrap IntKind.i64 (IntKind.wrap IntKind.i64 (IntKind.wrap IntKind.i64 (x1 - fr) + S) - 1)) S) then many else IntKind.wrap IntKind.i64 (Int.tdiv (IntKind.wrap IntKind.i64 (IntKind.wrap IntKind.i64 (IntKind.wrap IntKind.i64 (x1 - fr) + S) - 1)) S) else if many < 0 then many else 0)]) [some { row := Row.rlst [iv X, iv Y, iv S, iv W, iv H, MV.any, MV.any], ty := 90 }] else none else bif !decide (S = 0) then bif decide (x1 ≤ fr) then c0 (MV.tup [iv (if many < IntKind.wrap IntKind.i64 (Int.tdiv (IntKind.wrap IntKind.i64 (IntKind.wrap IntKind.i64 (IntKind.wrap IntKind.i64 (x0 - fr) + S) - 1)) S) then many else IntKind.wrap IntKind.i64 (Int.tdiv (IntKind.wrap IntKind.i64 (IntKind.wrap IntKind.i64 (IntKind.wrap IntKind.i64 (x0 - fr) + S) - 1)) S)), iv (if (if many < IntKind.wrap IntKind.i64 (Int.tdiv (IntKind.wrap IntKind.i64 (IntKind.wrap IntKind.i64 (IntKind.wrap IntKind.i64 (x0 - fr) + S) - 1)) S) then many else IntKind.wrap IntKind.i64 (Int.tdiv (IntKind.wrap IntKind.i64 (IntKind.wrap IntKind.i64 (IntKind.wrap IntKind.i64 (x0 - fr) + S) - 1)) S)) < if many < 0 then many else 0 then if many < 0 then many else 0 else if many < IntKind.wrap IntKind.i64 (Int.tdiv (IntKind.wrap IntKind.i64 (IntKind.wrap IntKind.i64 (IntKind.wrap IntKind.i64 (x0 - fr) + S) - 1)) S) then many else IntKind.wrap IntKind.i64 (Int.tdiv (IntKind.wrap IntKind.i64 (IntKind.wrap IntKind.i64 (IntKind.wrap IntKind.i64 (x0 - fr) + S) - 1)) S))]) [some { row := Row.rlst [iv X, iv Y, iv S, iv W, iv H, MV.any, MV.any], ty := 90 }] else bif !decide (S = 0) then c0 (MV.tup [iv (if many < IntKind.wrap IntKind.i64 (Int.tdiv (IntKind.wrap IntKind.i64 (IntKind.wrap IntKind.i64 (IntKind.wrap IntKind.i64 (x0 - fr) + S) - 1)) S) then many else IntKind.wrap IntKind.i64 (Int.tdiv (IntKind.wrap IntKind.i64 (IntKind.wrap IntKind.i64 (IntKind.wrap IntKind.i64 (x0 - fr) + S) - 1)) S)), iv (if (if many < IntKind.wrap IntKind.i64 (Int.tdiv (IntKind.wrap IntKind.i64 (IntKind.wrap IntKind.i64 (IntKind.wrap IntKind.i64 (x0 - fr) + S) - 1)) S) then many else IntKind.wrap IntKind.i64 (Int.tdiv (IntKind.wrap IntKind.i64 (IntKind.wrap IntKind.i64 (IntKind.wrap IntKind.i64 (x0 - fr) + S) - 1)) S)) < if many < IntKind.wrap IntKind.i64 (Int.tdiv (IntKind.wrap IntKind.i64 (IntKind.wrap IntKind.i64 (IntKind.wrap IntKind.i64 (x1 - fr) + S) - 1)) S) then many else IntKind.wrap IntKind.i64 (Int.tdiv (IntKind.wrap IntKind.i64 (IntKind.wrap IntKind.i64 (IntKind.wrap IntKind.i64 (x1 - fr) + S) - 1)) S) then if many < IntKind.wrap IntKind.i64 (Int.tdiv (IntKind.wrap IntKind.i64 (IntKind.wrap IntKind.i64 (IntKind.wrap IntKind.i64 (x1 - fr) + S) - 1)) S) then many else IntKind.wrap IntKind.i64 (Int.tdiv (IntKind.wrap IntKind.i64 (IntKind.wrap IntKind.i64 (IntKind.wrap IntKind.i64 (x1 - fr) + S) - 1)) S) else if many < IntKind.wrap IntKind.i64 (Int.tdiv (IntKind.wrap IntKind.i64 (IntKind.wrap IntKind.i64 (IntKind.wrap IntKind.i64 (x0 - fr) + S) - 1)) S) then many else IntKind.wrap IntKind.i64 (Int.tdiv (IntKind.wrap IntKind.i64 (IntKind.wrap IntKind.i64 (IntKind.wrap IntKind.i64 (x0 - fr) + S) - 1)) S))]) [some { row := Row.rlst [iv X, iv Y, iv S, iv W, iv H, MV.any, MV.any], ty := 90 }] else none else none := by kernel_rfl
def firstI (fr x S : Int) : Int := bif decide (x ≤ fr) then 0 else IntKind.wrap .i64 (Int.tdiv (IntKind.wrap .i64 (IntKind.wrap .i64 (IntKind.wrap .i64 (x - fr) + S) - 1)) S)
def minI (a b : Int) : Int := if b < a then b else a
def maxI (a b : Int) : Int := if a < b then b else a
def loI (fr x0 S many : Int) : Int := minI (firstI fr x0 S) many
def hiI (fr x0 x1 S many : Int) : Int := maxI (minI (firstI fr x0 S) many) (minI (firstI fr x1 S) many)
def spanF : List MV → Nat → Nat → List MV → Option MV := fun cells ty o ps => match cells, ty, o, ps with
 | [.val (.int .i64 X), .val (.int .i64 Y), .val (.int .i64 S), .val (.int .i64 W), .val (.int .i64 H), .any, .any], 90, 0, [.val (.int .i64 fr), .val (.int .i64 x0), .val (.int .i64 x1), .val (.int .i64 many)] =>
  bif !decide (S = 0) then some (.tup [iv (loI fr x0 S many), iv (hiI fr x0 x1 S many)]) else none
 | _, _, _, _ => none
theorem spanF_ok : QOk Try.prog A2.env 65 (toR1 spanF) := by
 refine Q_one true_stable (fun cells ty o ps v h => ?_)
 unfold spanF at h
 split at h
 ·rename_i X Y S W H fr x0 x1 many
  cases hS : (!decide (S = 0)) with
  | false => rw [hS] at h; cases h
  | true =>
   rw [hS] at h
   simp only [cond_true, Option.some.injEq] at h
   subst h
   refine ⟨⟨_, rfl⟩, ⟨_, rfl⟩, ?_⟩
   refine XF.of_x E_ok A2_ok mixed (n := 3) (m' := [some ⟨.rlst [iv X, iv Y, iv S, iv W, iv H, .any, .any], 90⟩]) (fun k => ?_) rfl
   rw [spanNf]
   unfold loI hiI firstI
   cases h1 : decide (x0 ≤ fr) <;> cases h2 : decide (x1 ≤ fr) <;> simp only [hS, cond_true, cond_false] <;> rfl
 ·cases h
def spanG : List MV → (Nat → Option Blk) → KV → Option Out := fun args rd k => match args with
 | [.ptr b 0, .val (.int .i64 fr), .val (.int .i64 x0), .val (.int .i64 x1), .val (.int .i64 many)] => match rd b with
  | some kb => match kb.cells, kb.ty with
   | [.val (.int .i64 X), .val (.int .i64 Y), .val (.int .i64 S), .val (.int .i64 W), .val (.int .i64 H), .va b1 i1 n1 s1, .va b2 i2 n2 s2], 90 =>
    bif !decide (S = 0) then k (.tup [iv (loI fr x0 S many), iv (hiI fr x0 x1 S many)]) else none
   | _, _ => none
  | none => none
 | _ => none
theorem spanG_ok : QOk Try.prog A2.env 65 spanG := by
 intro args rd k r hG
 refine spanF_ok args rd k r ?_
 unfold spanG at hG
 split at hG
 ·rename_i b fr x0 x1 many
  split at hG
  ·rename_i kb hb
   split at hG
   ·rename_i X Y S W H b1 i1 n1 s1 b2 i2 n2 s2 hc ht
    simp only [toR1, hb, hc, ht, spanF, List.map_cons, List.map_nil, hide]
    cases hS : (!decide (S = 0)) with
    | false => rw [hS] at hG; cases hG
    | true =>
     rw [hS] at hG
     exact hG
   ·cases hG
  ·cases hG
 ·cases hG
noncomputable def A3 : Ctx := addR A2 65 spanG
theorem A3_ok : COk Try.prog A3 := addR_ok A2_ok spanG_ok (fnOk_of Try.func65 (by kernel_rfl) (by kernel_rfl))
noncomputable def c56 : Code := bodyOf Try.f56
def TM (u : Nat → MV) (left right top bottom row k : Int) : List MV :=
 [.ptr 0 0, u 1, u 2, u 3, u 4, iv left, iv right, iv top, iv bottom, iv row, iv k] ++ (List.range 118).map (fun i => u (i + 11))
def Mp (X Y S W H : Int) (L : MV) (nc : Nat) (cs : List (List Int)) (third : List (Option Blk)) : Mem :=
 [some ⟨.rlst [iv X, iv Y, iv S, iv W, iv H, L, .va 1 0 nc 1], 90⟩, some ⟨.recs (i64s 1) cs, 2⟩] ++ third
set_option maxRecDepth 100000 in
theorem inBody (u : Nat → MV) (left right top bottom row k X Y S W H : Int) (n nc : Nat) (cs it : List (List Int)) (bx : Option Blk) (kk : KE) : xcode Try.prog E A3 1 (cut c56 [1,1,1,0,1,0,0,1,0,0,1,0,0]) (TM u left right top bottom row k) (Mp X Y S W H (.va 2 0 n 15) nc cs [some ⟨.rrecs (i64s 15) it, 39⟩, bx]) kk =
  bif decide (k < right) then bif List.length it == n then bif decide (List.length it ≤ 1000) then bif ownB it (IntKind.wrap IntKind.i64 (X + IntKind.wrap IntKind.i64 (k * S))) (IntKind.wrap IntKind.i64 (Y + IntKind.wrap IntKind.i64 (row * S))) then bif decide (0 ≤ ownN it (IntKind.wrap IntKind.i64 (X + IntKind.wrap IntKind.i64 (k * S))) (IntKind.wrap IntKind.i64 (Y + IntKind.wrap IntKind.i64 (row * S))) ∧ ownN it (IntKind.wrap IntKind.i64 (X + IntKind.wrap IntKind.i64 (k * S))) (IntKind.wrap IntKind.i64 (Y + IntKind.wrap IntKind.i64 (row * S))) < (↑n : Int)) then bif decide (0 + Int.toNat (ownN it (IntKind.wrap IntKind.i64 (X + IntKind.wrap IntKind.i64 (k * S))) (IntKind.wrap IntKind.i64 (Y + IntKind.wrap IntKind.i64 (row * S)))) < List.length it) then bif decide (0 ≤ IntKind.wrap IntKind.i64 (IntKind.wrap IntKind.i64 (row * W) + k) ∧ IntKind.wrap IntKind.i64 (IntKind.wrap IntKind.i64 (row * W) + k) < (↑nc : Int)) then bif decide (0 + Int.toNat (IntKind.wrap IntKind.i64 (IntKind.wrap IntKind.i64 (row * W) + k)) < List.length cs) then kk XE.normal [MV.ptr 0 0, u 1, u 2, u 3, u 4, iv left, iv right, iv top, iv bottom, iv row, iv (IntKind.wrap IntKind.i64 (k + 1)), iv (List.getD (List.getD it (0 + Int.toNat (ownN it (IntKind.wrap IntKind.i64 (X + IntKind.wrap IntKind.i64 (k * S))) (IntKind.wrap IntKind.i64 (Y + IntKind.wrap IntKind.i64 (row * S))))) []) (0 + 1 + 1 + 1 + 1 + 1 + 1 + 1 + 1 + 1 + 1 + 1 + 1 + 1 + 1) 0), iv (ownN it (IntKind.wrap IntKind.i64 (X + IntKind.wrap IntKind.i64 (k * S))) (IntKind.wrap IntKind.i64 (Y + IntKind.wrap IntKind.i64 (row * S)))), MV.val (Value.bool (ownB it (IntKind.wrap IntKind.i64 (X + IntKind.wrap IntKind.i64 (k * S))) (IntKind.wrap IntKind.i64 (Y + IntKind.wrap IntKind.i64 (row * S))))), u 14, u 15, u 16, u 17, u 18, u 19, u 20, u 21, u 22, u 23, u 24, u 25, u 26, u 27, u 28, u 29, u 30, u 31, u 32, u 33, u 34, u 35, u 36, u 37, u 38, u 39, u 40, u 41, u 42, u 43, u 44, u 45, u 46, u 47, u 48, u 49, u 50, u 51, u 52, u 53, u 54, u 55, u 56, u 57, u 58, iv k, iv right, MV.val (Value.bool true), iv k, iv (IntKind.wrap IntKind.i64 (k + 1)), MV.tup [iv (ownN it (IntKind.wrap IntKind.i64 (X + IntKind.wrap IntKind.i64 (k * S))) (IntKind.wrap IntKind.i64 (Y + IntKind.wrap IntKind.i64 (row * S)))), MV.val (Value.bool (ownB it (IntKind.wrap IntKind.i64 (X + IntKind.wrap IntKind.i64 (k * S))) (IntKind.wrap IntKind.i64 (Y + IntKind.wrap IntKind.i64 (row * S)))))], MV.ptr 0 0, MV.ptr 0 0, MV.ptr 0 5, MV.va 2 0 n 15, MV.ptr 0 0, MV.ptr 0 0, MV.ptr 0 0, MV.ptr 0 0, iv X, iv k, MV.ptr 0 0, MV.ptr 0 0, MV.ptr 0 0, MV.ptr 0 2, iv S, iv (IntKind.wrap IntKind.i64 (k * S)), iv (IntKind.wrap IntKind.i64 (X + IntKind.wrap IntKind.i64 (k * S))), MV.ptr 0 0, MV.ptr 0 0, MV.ptr 0 0, MV.ptr 0 1, iv Y, iv row, MV.ptr 0 0, MV.ptr 0 0, MV.ptr 0 0, MV.ptr 0 2, iv S, iv (IntKind.wrap IntKind.i64 (row * S)), iv (IntKind.wrap IntKind.i64 (Y + IntKind.wrap IntKind.i64 (row * S))), MV.tup [iv (ownN it (IntKind.wrap IntKind.i64 (X + IntKind.wrap IntKind.i64 (k * S))) (IntKind.wrap IntKind.i64 (Y + IntKind.wrap IntKind.i64 (row * S)))), MV.val (Value.bool (ownB it (IntKind.wrap IntKind.i64 (X + IntKind.wrap IntKind.i64 (k * S))) (IntKind.wrap IntKind.i64 (Y + IntKind.wrap IntKind.i64 (row * S)))))], iv (ownN it (IntKind.wrap IntKind.i64 (X + IntKind.wrap IntKind.i64 (k * S))) (IntKind.wrap IntKind.i64 (Y + IntKind.wrap IntKind.i64 (row * S)))), MV.val (Value.bool (ownB it (IntKind.wrap IntKind.i64 (X + IntKind.wrap IntKind.i64 (k * S))) (IntKind.wrap IntKind.i64 (Y + IntKind.wrap IntKind.i64 (row * S))))), MV.val (Value.bool true), MV.ptr 0 0, MV.ptr 0 0, MV.ptr 0 5, MV.va 2 0 n 15, iv (ownN it (IntKind.wrap IntKind.i64 (X + IntKind.wrap IntKind.i64 (k * S))) (IntKind.wrap IntKind.i64 (Y + IntKind.wrap IntKind.i64 (row * S)))), MV.pe 2 15 (0 + Int.toNat (ownN it (IntKind.wrap IntKind.i64 (X + IntKind.wrap IntKind.i64 (k * S))) (IntKind.wrap IntKind.i64 (Y + IntKind.wrap IntKind.i64 (row * S))))) 0, MV.pe 2 15 (0 + Int.toNat (ownN it (IntKind.wrap IntKind.i64 (X + IntKind.wrap IntKind.i64 (k * S))) (IntKind.wrap IntKind.i64 (Y + IntKind.wrap IntKind.i64 (row * S))))) 14, iv (List.getD (List.getD it (0 + Int.toNat (ownN it (IntKind.wrap IntKind.i64 (X + IntKind.wrap IntKind.i64 (k * S))) (IntKind.wrap IntKind.i64 (Y + IntKind.wrap IntKind.i64 (row * S))))) []) (0 + 1 + 1 + 1 + 1 + 1 + 1 + 1 + 1 + 1 + 1 + 1 + 1 + 1 + 1) 0), MV.ptr 0 0, MV.ptr 0 0, MV.ptr 0 6, MV.va 1 0 nc 1, iv row, MV.ptr 0 0, MV.ptr 0 0, MV.ptr 0 0, MV.ptr 0 3, iv W, iv (IntKind.wrap IntKind.i64 (row * W)), iv k, iv (IntKind.wrap IntKind.i64 (IntKind.wrap IntKind.i64 (row * W) + k)), iv (List.getD (List.getD it (0 + Int.toNat (ownN it (IntKind.wrap IntKind.i64 (X + IntKind.wrap IntKind.i64 (k * S))) (IntKind.wrap IntKind.i64 (Y + IntKind.wrap IntKind.i64 (row * S))))) []) (0 + 1 + 1 + 1 + 1 + 1 + 1 + 1 + 1 + 1 + 1 + 1 + 1 + 1 + 1) 0), MV.pe 1 1 (0 + Int.toNat (IntKind.wrap IntKind.i64 (IntKind.wrap IntKind.i64 (row * W) + k))) 0, u 122, u 123, u 124, u 125, u 126, u 127, u 128] [some { row := Row.rlst [iv X, iv Y, iv S, iv W, iv H, MV.va 2 0 n 15, MV.va 1 0 nc 1], ty := 90 }, some { row := Row.recs [some IntKind.i64] (List.set cs (0 + Int.toNat (IntKind.wrap IntKind.i64 (IntKind.wrap IntKind.i64 (row * W) + k))) (setRec (i64s 1) 0 (List.getD cs (0 + Int.toNat (IntKind.wrap IntKind.i64 (IntKind.wrap IntKind.i64 (row * W) + k))) []) 0 (List.getD (List.getD it (0 + Int.toNat (ownN it (IntKind.wrap IntKind.i64 (X + IntKind.wrap IntKind.i64 (k * S))) (IntKind.wrap IntKind.i64 (Y + IntKind.wrap IntKind.i64 (row * S))))) []) (0 + 1 + 1 + 1 + 1 + 1 + 1 + 1 + 1 + 1 + 1 + 1 + 1 + 1 + 1) 0))), ty := 2 }, some { row := Row.rrecs [some IntKind.i64, some IntKind.i64, some IntKind.i64, some IntKind.i64, some IntKind.i64, some IntKind.i64, some IntKind.i64, some IntKind.i64, some IntKind.i64, some IntKind.i64, some IntKind.i64, some IntKind.i64, some IntKind.i64, some IntKind.i64, some IntKind.i64] it, ty := 39 }, bx, none, none, none, none, none, none, none, none, none, none, none, none, none, none, none, none, none, none, none, none, none, none, none, none, none, none, none, none, none, none, none, none, none, none, none, none, none, none, none, none, none, none, none, none, none, none, none, none, none, none, none, none] else none else none else none else none else bif decide (0 ≤ IntKind.wrap IntKind.i64 (IntKind.wrap IntKind.i64 (row * W) + k) ∧ IntKind.wrap IntKind.i64 (IntKind.wrap IntKind.i64 (row * W) + k) < (↑nc : Int)) then bif decide (0 + Int.toNat (IntKind.wrap IntKind.i64 (IntKind.wrap IntKind.i64 (row * W) + k)) < List.length cs) then kk XE.normal [MV.ptr 0 0, u 1, u 2, u 3, u 4, iv left, iv right, iv top, iv bottom, iv row, iv (IntKind.wrap IntKind.i64 (k + 1)), iv 0, iv (ownN it (IntKind.wrap IntKind.i64 (X + IntKind.wrap IntKind.i64 (k * S))) (IntKind.wrap IntKind.i64 (Y + IntKind.wrap IntKind.i64 (row * S)))), MV.val (Value.bool (ownB it (IntKind.wrap IntKind.i64 (X + IntKind.wrap IntKind.i64 (k * S))) (IntKind.wrap IntKind.i64 (Y + IntKind.wrap IntKind.i64 (row * S))))), u 14, u 15, u 16, u 17, u 18, u 19, u 20, u 21, u 22, u 23, u 24, u 25, u 26, u 27, u 28, u 29, u 30, u 31, u 32, u 33, u 34, u 35, u 36, u 37, u 38, u 39, u 40, u 41, u 42, u 43, u 44, u 45, u 46, u 47, u 48, u 49, u 50, u 51, u 52, u 53, u 54, u 55, u 56, u 57, u 58, iv k, iv right, MV.val (Value.bool true), iv k, iv (IntKind.wrap IntKind.i64 (k + 1)), MV.tup [iv (ownN it (IntKind.wrap IntKind.i64 (X + IntKind.wrap IntKind.i64 (k * S))) (IntKind.wrap IntKind.i64 (Y + IntKind.wrap IntKind.i64 (row * S)))), MV.val (Value.bool (ownB it (IntKind.wrap IntKind.i64 (X + IntKind.wrap IntKind.i64 (k * S))) (IntKind.wrap IntKind.i64 (Y + IntKind.wrap IntKind.i64 (row * S)))))], MV.ptr 0 0, MV.ptr 0 0, MV.ptr 0 5, MV.va 2 0 n 15, MV.ptr 0 0, MV.ptr 0 0, MV.ptr 0 0, MV.ptr 0 0, iv X, iv k, MV.ptr 0 0, MV.ptr 0 0, MV.ptr 0 0, MV.ptr 0 2, iv S, iv (IntKind.wrap IntKind.i64 (k * S)), iv (IntKind.wrap IntKind.i64 (X + IntKind.wrap IntKind.i64 (k * S))), MV.ptr 0 0, MV.ptr 0 0, MV.ptr 0 0, MV.ptr 0 1, iv Y, iv row, MV.ptr 0 0, MV.ptr 0 0, MV.ptr 0 0, MV.ptr 0 2, iv S, iv (IntKind.wrap IntKind.i64 (row * S)), iv (IntKind.wrap IntKind.i64 (Y + IntKind.wrap IntKind.i64 (row * S))), MV.tup [iv (ownN it (IntKind.wrap IntKind.i64 (X + IntKind.wrap IntKind.i64 (k * S))) (IntKind.wrap IntKind.i64 (Y + IntKind.wrap IntKind.i64 (row * S)))), MV.val (Value.bool (ownB it (IntKind.wrap IntKind.i64 (X + IntKind.wrap IntKind.i64 (k * S))) (IntKind.wrap IntKind.i64 (Y + IntKind.wrap IntKind.i64 (row * S)))))], iv (ownN it (IntKind.wrap IntKind.i64 (X + IntKind.wrap IntKind.i64 (k * S))) (IntKind.wrap IntKind.i64 (Y + IntKind.wrap IntKind.i64 (row * S)))), MV.val (Value.bool (ownB it (IntKind.wrap IntKind.i64 (X + IntKind.wrap IntKind.i64 (k * S))) (IntKind.wrap IntKind.i64 (Y + IntKind.wrap IntKind.i64 (row * S))))), MV.val (Value.bool false), u 99, u 100, u 101, u 102, u 103, u 104, u 105, u 106, MV.ptr 0 0, MV.ptr 0 0, MV.ptr 0 6, MV.va 1 0 nc 1, iv row, MV.ptr 0 0, MV.ptr 0 0, MV.ptr 0 0, MV.ptr 0 3, iv W, iv (IntKind.wrap IntKind.i64 (row * W)), iv k, iv (IntKind.wrap IntKind.i64 (IntKind.wrap IntKind.i64 (row * W) + k)), iv 0, MV.pe 1 1 (0 + Int.toNat (IntKind.wrap IntKind.i64 (IntKind.wrap IntKind.i64 (row * W) + k))) 0, u 122, u 123, u 124, u 125, u 126, u 127, u 128] [some { row := Row.rlst [iv X, iv Y, iv S, iv W, iv H, MV.va 2 0 n 15, MV.va 1 0 nc 1], ty := 90 }, some { row := Row.recs [some IntKind.i64] (List.set cs (0 + Int.toNat (IntKind.wrap IntKind.i64 (IntKind.wrap IntKind.i64 (row * W) + k))) (setRec (i64s 1) 0 (List.getD cs (0 + Int.toNat (IntKind.wrap IntKind.i64 (IntKind.wrap IntKind.i64 (row * W) + k))) []) 0 0)), ty := 2 }, some { row := Row.rrecs [some IntKind.i64, some IntKind.i64, some IntKind.i64, some IntKind.i64, some IntKind.i64, some IntKind.i64, some IntKind.i64, some IntKind.i64, some IntKind.i64, some IntKind.i64, some IntKind.i64, some IntKind.i64, some IntKind.i64, some IntKind.i64, some IntKind.i64] it, ty := 39 }, bx, none, none, none, none, none, none, none, none, none, none, none, none, none, none, none, none, none, none, none, none, none, none, none, none, none, none, none, none, none, none, none, none, none, none, none, none, none, none, none, none, none, none, none, none, none, none, none, none, none, none, none, none] else none else none else none else none else kk (XE.exit 2) [MV.ptr 0 0, u 1, u 2, u 3, u 4, iv left, iv right, iv top, iv bottom, iv row, iv k, u 11, u 12, u 13, u 14, u 15, u 16, u 17, u 18, u 19, u 20, u 21, u 22, u 23, u 24, u 25, u 26, u 27, u 28, u 29, u 30, u 31, u 32, u 33, u 34, u 35, u 36, u 37, u 38, u 39, u 40, u 41, u 42, u 43, u 44, u 45, u 46, u 47, u 48, u 49, u 50, u 51, u 52, u 53, u 54, u 55, u 56, u 57, u 58, iv k, iv right, MV.val (Value.bool false), u 62, u 63, u 64, u 65, u 66, u 67, u 68, u 69, u 70, u 71, u 72, u 73, u 74, u 75, u 76, u 77, u 78, u 79, u 80, u 81, u 82, u 83, u 84, u 85, u 86, u 87, u 88, u 89, u 90, u 91, u 92, u 93, u 94, u 95, u 96, u 97, u 98, u 99, u 100, u 101, u 102, u 103, u 104, u 105, u 106, u 107, u 108, u 109, u 110, u 111, u 112, u 113, u 114, u 115, u 116, u 117, u 118, u 119, u 120, u 121, u 122, u 123, u 124, u 125, u 126, u 127, u 128] [some { row := Row.rlst [iv X, iv Y, iv S, iv W, iv H, MV.va 2 0 n 15, MV.va 1 0 nc 1], ty := 90 }, some { row := Row.recs [some IntKind.i64] cs, ty := 2 }, some { row := Row.rrecs [some IntKind.i64, some IntKind.i64, some IntKind.i64, some IntKind.i64, some IntKind.i64, some IntKind.i64, some IntKind.i64, some IntKind.i64, some IntKind.i64, some IntKind.i64, some IntKind.i64, some IntKind.i64, some IntKind.i64, some IntKind.i64, some IntKind.i64] it, ty := 39 }, bx] := by kernel_rfl
end Go.Proofs.Ytppklhfiajjhmaa.Ti
end
section
namespace Go.Proofs.Ytppklhfiajjhmaa.Ti
open Go Go.RowKit Go.Proofs.Ytppklhfiajjhmaa.Y
set_option linter.unusedVariables false
set_option linter.unusedSimpArgs false
structure IsTM (tm : List MV) (left right top bottom row k : Int) : Prop where
 len : tm.length = 129
 h0 : tm[0]? = some (.ptr 0 0)
 h5 : tm[5]? = some (iv left)
 h6 : tm[6]? = some (iv right)
 h7 : tm[7]? = some (iv top)
 h8 : tm[8]? = some (iv bottom)
 h9 : tm[9]? = some (iv row)
 h10 : tm[10]? = some (iv k)
theorem IsTM.eq {tm : List MV} {left right top bottom row k : Int} (h : IsTM tm left right top bottom row k) : ∃ u, tm = TM u left right top bottom row k := by
 refine ⟨fun i => tm.getD i (.val undef), ?_⟩
 have hg : ∀ i, i < 129 → tm[i]? = some (tm.getD i (.val undef)) := by
  intro i hi
  rw [List.getD_eq_getElem?_getD, List.getElem?_eq_getElem (by rw [h.len]; exact hi)]
  rfl
 apply List.ext_getElem?
 intro i
 rcases Nat.lt_or_ge i 11 with hi | hi
 ·unfold TM
  rw [List.getElem?_append_left (by simpa using hi)]
  match i, hi with
  | 0, _ => exact h.h0
  | 1, _ => exact hg 1 (by omega)
  | 2, _ => exact hg 2 (by omega)
  | 3, _ => exact hg 3 (by omega)
  | 4, _ => exact hg 4 (by omega)
  | 5, _ => exact h.h5
  | 6, _ => exact h.h6
  | 7, _ => exact h.h7
  | 8, _ => exact h.h8
  | 9, _ => exact h.h9
  | 10, _ => exact h.h10
 ·unfold TM
  rw [List.getElem?_append_right (by simpa using hi)]
  simp only [List.length_cons, List.length_nil, List.getElem?_map]
  rcases Nat.lt_or_ge i 129 with hi2 | hi2
  ·rw [List.getElem?_range (by omega), hg i hi2]
   simp only [Option.map_some]
   congr 3
   omega
  ·rw [List.getElem?_eq_none (by rw [h.len]; exact hi2), List.getElem?_eq_none (by simp; omega)]
   rfl
theorem And_swap {α : Type} {p q : α → Prop} (h : ∃ x, q x ∧ p x) : ∃ x, p x ∧ q x := by obtain ⟨x, a, b⟩ := h; exact ⟨x, b, a⟩
abbrev w6 (n : Int) : Int := IntKind.wrap .i64 n
theorem setRec1 (r : List Int) (v : Int) : setRec (i64s 1) 0 r 0 v = [v] := rfl
def colC (it : List (List Int)) (x y : Int) : Int := bif ownB it x y then (it.getD (ownN it x y).toNat []).getD 14 0 else 0
theorem own_lt {it : List (List Int)} {x y : Int} (h : ownB it x y = true) : 0 ≤ ownN it x y ∧ ownN it x y < it.length := by
 unfold ownB at h
 unfold ownN
 cases ho : Pure.ownr (it.map dec39) x y with
 | none => rw [ho] at h; simp at h
 | some m =>
  have := Pure.ownr_lt ho
  simp only [List.length_map] at this
  simp only
  omega
theorem in_round (u : Nat → MV) (left right top bottom row k X Y S W H : Int) (n nc : Nat) (cs it : List (List Int)) (bx : Option Blk) (hk : k < right) (hn : it.length = n) (h1 : it.length ≤ 1000)
  (hnc : cs.length = nc) (hi : w6 (w6 (row * W) + k) = row * W + k) (hk1 : w6 (k + 1) = k + 1) (hb : 0 ≤ row * W + k ∧ row * W + k < nc) :
  ∃ tm', IsTM tm' left right top bottom row (k + 1) ∧ ∀ kk : KE, xcode Try.prog E A3 1 (cut c56 [1,1,1,0,1,0,0,1,0,0,1,0,0]) (TM u left right top bottom row k) (Mp X Y S W H (.va 2 0 n 15) nc cs [some ⟨.rrecs (i64s 15) it, 39⟩, bx]) kk =
   kk .normal tm' (Mp X Y S W H (.va 2 0 n 15) nc (cs.set (row * W + k).toNat [colC it (w6 (X + w6 (k * S))) (w6 (Y + w6 (row * S)))]) [some ⟨.rrecs (i64s 15) it, 39⟩, bx] ++ List.replicate 52 none) := by
 have c1 : decide (k < right) = true := decide_eq_true hk
 have c2 : (List.length it == n) = true := by simp [hn]
 have c3 : decide (it.length ≤ 1000) = true := decide_eq_true h1
 have c4 : decide (0 ≤ row * W + k ∧ row * W + k < (nc : Int)) = true := decide_eq_true hb
 have c5 : decide ((row * W + k).toNat < cs.length) = true := decide_eq_true (by omega)
 cases hB : ownB it (w6 (X + w6 (k * S))) (w6 (Y + w6 (row * S))) with
 | true =>
  obtain ⟨o1, o2⟩ := own_lt hB
  have c6 : decide (0 ≤ ownN it (w6 (X + w6 (k * S))) (w6 (Y + w6 (row * S))) ∧ ownN it (w6 (X + w6 (k * S))) (w6 (Y + w6 (row * S))) < (n : Int)) = true := decide_eq_true ⟨o1, by rw [← hn]; exact o2⟩
  have c7 : decide ((ownN it (w6 (X + w6 (k * S))) (w6 (Y + w6 (row * S)))).toNat < it.length) = true := decide_eq_true (by omega)
  have hc : colC it (w6 (X + w6 (k * S))) (w6 (Y + w6 (row * S))) = (it.getD (ownN it (w6 (X + w6 (k * S))) (w6 (Y + w6 (row * S)))).toNat []).getD 14 0 := by unfold colC; rw [hB]; rfl
  refine And_swap ?_
  apply Exists.intro
  refine ⟨fun kk => ?_, ?_⟩
  ·rw [inBody]
   simp only [c1, c2, c3, hB, c6, c7, hi, c4, c5, hk1, cond_true, hc, Nat.zero_add, Mp, setRec1]
   rfl
  ·exact ⟨rfl, rfl, rfl, rfl, rfl, rfl, rfl, rfl⟩
 | false =>
  have hc : colC it (w6 (X + w6 (k * S))) (w6 (Y + w6 (row * S))) = 0 := by unfold colC; rw [hB]; rfl
  refine And_swap ?_
  apply Exists.intro
  refine ⟨fun kk => ?_, ?_⟩
  ·rw [inBody]
   simp only [c1, c2, c3, hB, hi, c4, c5, hk1, cond_true, cond_false, hc, Nat.zero_add, Mp, setRec1]
   rfl
  ·exact ⟨rfl, rfl, rfl, rfl, rfl, rfl, rfl, rfl⟩
theorem in_end (u : Nat → MV) (left right top bottom row k X Y S W H : Int) (n nc : Nat) (cs it : List (List Int)) (bx : Option Blk) (hk : ¬ k < right) :
  ∃ tm', IsTM tm' left right top bottom row k ∧ ∀ kk : KE, xcode Try.prog E A3 1 (cut c56 [1,1,1,0,1,0,0,1,0,0,1,0,0]) (TM u left right top bottom row k) (Mp X Y S W H (.va 2 0 n 15) nc cs [some ⟨.rrecs (i64s 15) it, 39⟩, bx]) kk =
   kk (.exit 2) tm' (Mp X Y S W H (.va 2 0 n 15) nc cs [some ⟨.rrecs (i64s 15) it, 39⟩, bx]) := by
 have c1 : decide (k < right) = false := decide_eq_false hk
 refine And_swap ?_
 apply Exists.intro
 refine ⟨fun kk => ?_, ?_⟩
 ·rw [inBody]
  simp only [c1, cond_false, Mp]
  rfl
 ·exact ⟨rfl, rfl, rfl, rfl, rfl, rfl, rfl, rfl⟩
end Go.Proofs.Ytppklhfiajjhmaa.Ti
end
section
namespace Go.Proofs.Ytppklhfiajjhmaa.Ti
open Go Go.RowKit Go.Proofs.Ytppklhfiajjhmaa.Y
set_option linter.unusedVariables false
set_option linter.unusedSimpArgs false
theorem w6_id {n : Int} (h1 : -9223372036854775808 ≤ n) (h2 : n < 9223372036854775808) : w6 n = n := by
 unfold w6
 rw [IntKind.wrap_i64]
 omega
def rowP (it : List (List Int)) (X Y S W row : Int) : Nat → Int → List (List Int) → List (List Int)
 | 0, _, cs => cs
 | d + 1, k, cs => rowP it X Y S W row d (k + 1) (cs.set (row * W + k).toNat [colC it (w6 (X + w6 (k * S))) (w6 (Y + w6 (row * S)))])
theorem rowP_len (it : List (List Int)) (X Y S W row : Int) : ∀ (d : Nat) (k : Int) (cs : List (List Int)), (rowP it X Y S W row d k cs).length = cs.length
 | 0, _, _ => rfl
 | d + 1, k, cs => by rw [rowP, rowP_len it X Y S W row d]; simp
section
variable (it : List (List Int)) (bx : Option Blk) (left right top bottom X Y S W H : Int) (n nc : Nat)
def MpA (cs : List (List Int)) : Mem := Mp X Y S W H (.va 2 0 n 15) nc cs [some ⟨.rrecs (i64s 15) it, 39⟩, bx]
theorem in_loop (row : Int) (hn : it.length = n) (h1 : it.length ≤ 1000) (hr : 0 ≤ row * W) (hl : 0 ≤ left) (hb : row * W + right ≤ nc) (hnc : nc ≤ 1000000) {tm : List MV} {k : Int} {cs : List (List Int)} {q : Nat}
  (h : IsTM tm left right top bottom row k) (hk0 : 0 ≤ k) (hk : k ≤ right) (hcs : cs.length = nc) :
  XR Try.prog A3.env (cut c56 [1,1,1,0,1,0,0,1,0,0,1,0]) tm (MpA it bx X Y S W H n nc cs ++ List.replicate q none) (fun e tm' m' => e = .exit 2 ∧ IsTM tm' left right top bottom row right ∧ ∃ q', m' = MpA it bx X Y S W H n nc (rowP it X Y S W row (right - k).toNat k cs) ++ List.replicate q' none) := by
 have e : cut c56 [1,1,1,0,1,0,0,1,0,0,1,0] = .loop (cut c56 [1,1,1,0,1,0,0,1,0,0,1,0,0]) := by kernel_rfl
 refine XR.cast e ?_
 refine XR.loop (fun j tm m => ∃ (k' : Int) (cs' : List (List Int)) (q' : Nat), IsTM tm left right top bottom row k' ∧ m = MpA it bx X Y S W H n nc cs' ++ List.replicate q' none ∧ 0 ≤ k' ∧ k' ≤ right ∧ cs'.length = nc ∧ j = (right - k').toNat ∧
  rowP it X Y S W row (right - k').toNat k' cs' = rowP it X Y S W row (right - k).toNat k cs) ?_ (j := (right - k).toNat) ⟨k, cs, q, h, rfl, hk0, hk, hcs, rfl, rfl⟩
 rintro j tm m ⟨k', cs', q', g1, rfl, g2, g3, g4, rfl, g5⟩
 refine XR.trim ?_
 obtain ⟨u, rfl⟩ := g1.eq
 by_cases hlt : k' < right
 ·obtain ⟨tm', t1, t2⟩ := in_round u left right top bottom row k' X Y S W H n nc cs' it bx hlt hn h1 g4 (by rw [w6_id (n := row * W) (by omega) (by omega), w6_id (by omega) (by omega)]) (w6_id (by omega) (by omega)) (by omega)
  refine XR.of_x E_ok A3_ok mixed t2 ?_
  refine ⟨(right - (k' + 1)).toNat, by omega, k' + 1, _, 52, t1, rfl, by omega, by omega, by simpa using g4, rfl, ?_⟩
  rw [← g5]
  have : (right - k').toNat = (right - (k' + 1)).toNat + 1 := by omega
  rw [this, rowP]
 ·obtain ⟨tm', t1, t2⟩ := in_end u left right top bottom row k' X Y S W H n nc cs' it bx hlt
  refine XR.of_x E_ok A3_ok mixed t2 ?_
  have hk' : k' = right := by omega
  subst hk'
  refine ⟨rfl, t1, 0, ?_⟩
  have : (k' - k').toNat = 0 := by omega
  rw [this, rowP] at g5
  rw [← g5]
  simp [MpA]
end
end Go.Proofs.Ytppklhfiajjhmaa.Ti
end
section
namespace Go.Proofs.Ytppklhfiajjhmaa.Ti
open Go Go.RowKit Go.Proofs.Ytppklhfiajjhmaa.Y
set_option linter.unusedVariables false
set_option linter.unusedSimpArgs false
theorem list_eq {tm p : List MV} {N : Nat} (hl : tm.length = N) (hq : p.length ≤ N) (h : ∀ i, i < p.length → tm[i]? = p[i]?) : tm = p ++ (List.range (N - p.length)).map (fun i => tm.getD (i + p.length) (.val undef)) := by
 apply List.ext_getElem?
 intro i
 rcases Nat.lt_or_ge i p.length with hi | hi
 ·rw [List.getElem?_append_left hi, h i hi]
 ·rw [List.getElem?_append_right hi, List.getElem?_map]
  rcases Nat.lt_or_ge i N with hi2 | hi2
  ·rw [List.getElem?_range (by omega), List.getElem?_eq_getElem (by omega)]
   simp only [Option.map_some]
   rw [show i - p.length + p.length = i by omega, List.getD_eq_getElem?_getD, List.getElem?_eq_getElem (by omega)]
   rfl
  ·rw [List.getElem?_eq_none (by omega), List.getElem?_eq_none (by simp; omega)]
   rfl
def TO (u : Nat → MV) (left right top bottom row : Int) : List MV :=
 [.ptr 0 0, u 1, u 2, u 3, u 4, iv left, iv right, iv top, iv bottom, iv row] ++ (List.range 119).map (fun i => u (i + 10))
structure IsTO (tm : List MV) (left right top bottom row : Int) : Prop where
 len : tm.length = 129
 h0 : tm[0]? = some (.ptr 0 0)
 h5 : tm[5]? = some (iv left)
 h6 : tm[6]? = some (iv right)
 h7 : tm[7]? = some (iv top)
 h8 : tm[8]? = some (iv bottom)
 h9 : tm[9]? = some (iv row)
theorem get_u {tm : List MV} {i N : Nat} (h : tm.length = N) (hi : i < N) : tm[i]? = some (tm.getD i (.val undef)) := by
 rw [List.getD_eq_getElem?_getD, List.getElem?_eq_getElem (by omega)]; rfl
theorem IsTO.eq {tm : List MV} {left right top bottom row : Int} (h : IsTO tm left right top bottom row) : ∃ u, tm = TO u left right top bottom row := by
 refine ⟨fun i => tm.getD i (.val undef), list_eq (p := [.ptr 0 0, _, _, _, _, iv left, iv right, iv top, iv bottom, iv row]) h.len (by simp) (fun i hi => ?_)⟩
 match i, hi with
 | 0, _ => exact h.h0
 | 1, _ => exact get_u h.len (by omega)
 | 2, _ => exact get_u h.len (by omega)
 | 3, _ => exact get_u h.len (by omega)
 | 4, _ => exact get_u h.len (by omega)
 | 5, _ => exact h.h5
 | 6, _ => exact h.h6
 | 7, _ => exact h.h7
 | 8, _ => exact h.h8
 | 9, _ => exact h.h9
theorem IsTM.o {tm : List MV} {left right top bottom row k : Int} (h : IsTM tm left right top bottom row k) : IsTO tm left right top bottom row := ⟨h.len, h.h0, h.h5, h.h6, h.h7, h.h8, h.h9⟩
set_option maxRecDepth 100000 in
theorem outHead (u : Nat → MV) (left right top bottom row X Y S W H : Int) (n nc : Nat) (cs it : List (List Int)) (bx : Option Blk) (kk : KE) : xcode Try.prog E A3 1 (cut c56 [1,1,1,0,1,0,0,0]) (TO u left right top bottom row) (Mp X Y S W H (.va 2 0 n 15) nc cs [some ⟨.rrecs (i64s 15) it, 39⟩, bx]) kk =
  bif decide (row < bottom) then kk XE.normal [MV.ptr 0 0, u 1, u 2, u 3, u 4, iv left, iv right, iv top, iv bottom, iv row, u 10, u 11, u 12, u 13, u 14, u 15, u 16, u 17, u 18, u 19, u 20, u 21, u 22, u 23, u 24, u 25, u 26, u 27, u 28, u 29, u 30, u 31, u 32, u 33, u 34, u 35, u 36, u 37, u 38, u 39, u 40, u 41, u 42, u 43, u 44, u 45, u 46, u 47, u 48, u 49, u 50, u 51, u 52, iv row, iv bottom, MV.val (Value.bool true), u 56, u 57, u 58, u 59, u 60, u 61, u 62, u 63, u 64, u 65, u 66, u 67, u 68, u 69, u 70, u 71, u 72, u 73, u 74, u 75, u 76, u 77, u 78, u 79, u 80, u 81, u 82, u 83, u 84, u 85, u 86, u 87, u 88, u 89, u 90, u 91, u 92, u 93, u 94, u 95, u 96, u 97, u 98, u 99, u 100, u 101, u 102, u 103, u 104, u 105, u 106, u 107, u 108, u 109, u 110, u 111, u 112, u 113, u 114, u 115, u 116, u 117, u 118, u 119, u 120, u 121, u 122, u 123, u 124, u 125, u 126, u 127, u 128] [some { row := Row.rlst [iv X, iv Y, iv S, iv W, iv H, MV.va 2 0 n 15, MV.va 1 0 nc 1], ty := 90 }, some { row := Row.recs [some IntKind.i64] cs, ty := 2 }, some { row := Row.rrecs [some IntKind.i64, some IntKind.i64, some IntKind.i64, some IntKind.i64, some IntKind.i64, some IntKind.i64, some IntKind.i64, some IntKind.i64, some IntKind.i64, some IntKind.i64, some IntKind.i64, some IntKind.i64, some IntKind.i64, some IntKind.i64, some IntKind.i64] it, ty := 39 }, bx] else kk (XE.exit 0) [MV.ptr 0 0, u 1, u 2, u 3, u 4, iv left, iv right, iv top, iv bottom, iv row, u 10, u 11, u 12, u 13, u 14, u 15, u 16, u 17, u 18, u 19, u 20, u 21, u 22, u 23, u 24, u 25, u 26, u 27, u 28, u 29, u 30, u 31, u 32, u 33, u 34, u 35, u 36, u 37, u 38, u 39, u 40, u 41, u 42, u 43, u 44, u 45, u 46, u 47, u 48, u 49, u 50, u 51, u 52, iv row, iv bottom, MV.val (Value.bool false), u 56, u 57, u 58, u 59, u 60, u 61, u 62, u 63, u 64, u 65, u 66, u 67, u 68, u 69, u 70, u 71, u 72, u 73, u 74, u 75, u 76, u 77, u 78, u 79, u 80, u 81, u 82, u 83, u 84, u 85, u 86, u 87, u 88, u 89, u 90, u 91, u 92, u 93, u 94, u 95, u 96, u 97, u 98, u 99, u 100, u 101, u 102, u 103, u 104, u 105, u 106, u 107, u 108, u 109, u 110, u 111, u 112, u 113, u 114, u 115, u 116, u 117, u 118, u 119, u 120, u 121, u 122, u 123, u 124, u 125, u 126, u 127, u 128] [some { row := Row.rlst [iv X, iv Y, iv S, iv W, iv H, MV.va 2 0 n 15, MV.va 1 0 nc 1], ty := 90 }, some { row := Row.recs [some IntKind.i64] cs, ty := 2 }, some { row := Row.rrecs [some IntKind.i64, some IntKind.i64, some IntKind.i64, some IntKind.i64, some IntKind.i64, some IntKind.i64, some IntKind.i64, some IntKind.i64, some IntKind.i64, some IntKind.i64, some IntKind.i64, some IntKind.i64, some IntKind.i64, some IntKind.i64, some IntKind.i64] it, ty := 39 }, bx] := by kernel_rfl
set_option maxRecDepth 100000 in
theorem outInit (u : Nat → MV) (left right top bottom row X Y S W H : Int) (n nc : Nat) (cs it : List (List Int)) (bx : Option Blk) (kk : KE) : xcode Try.prog E A3 1 (cut c56 [1,1,1,0,1,0,0,1,0,0,0]) (TO u left right top bottom row) (Mp X Y S W H (.va 2 0 n 15) nc cs [some ⟨.rrecs (i64s 15) it, 39⟩, bx]) kk =
  kk XE.normal [MV.ptr 0 0, u 1, u 2, u 3, u 4, iv left, iv right, iv top, iv bottom, iv row, iv left, u 11, u 12, u 13, u 14, u 15, u 16, u 17, u 18, u 19, u 20, u 21, u 22, u 23, u 24, u 25, u 26, u 27, u 28, u 29, u 30, u 31, u 32, u 33, u 34, u 35, u 36, u 37, u 38, u 39, u 40, u 41, u 42, u 43, u 44, u 45, u 46, u 47, u 48, u 49, u 50, u 51, u 52, u 53, u 54, u 55, u 56, u 57, iv left, u 59, u 60, u 61, u 62, u 63, u 64, u 65, u 66, u 67, u 68, u 69, u 70, u 71, u 72, u 73, u 74, u 75, u 76, u 77, u 78, u 79, u 80, u 81, u 82, u 83, u 84, u 85, u 86, u 87, u 88, u 89, u 90, u 91, u 92, u 93, u 94, u 95, u 96, u 97, u 98, u 99, u 100, u 101, u 102, u 103, u 104, u 105, u 106, u 107, u 108, u 109, u 110, u 111, u 112, u 113, u 114, u 115, u 116, u 117, u 118, u 119, u 120, u 121, u 122, u 123, u 124, u 125, u 126, u 127, u 128] [some { row := Row.rlst [iv X, iv Y, iv S, iv W, iv H, MV.va 2 0 n 15, MV.va 1 0 nc 1], ty := 90 }, some { row := Row.recs [some IntKind.i64] cs, ty := 2 }, some { row := Row.rrecs [some IntKind.i64, some IntKind.i64, some IntKind.i64, some IntKind.i64, some IntKind.i64, some IntKind.i64, some IntKind.i64, some IntKind.i64, some IntKind.i64, some IntKind.i64, some IntKind.i64, some IntKind.i64, some IntKind.i64, some IntKind.i64, some IntKind.i64] it, ty := 39 }, bx] := by kernel_rfl
set_option maxRecDepth 100000 in
theorem outNext (u : Nat → MV) (left right top bottom row k X Y S W H : Int) (n nc : Nat) (cs it : List (List Int)) (bx : Option Blk) (kk : KE) : xcode Try.prog E A3 1 (cut c56 [1,1,1,0,1,0,0,1,1]) (TM u left right top bottom row k) (Mp X Y S W H (.va 2 0 n 15) nc cs [some ⟨.rrecs (i64s 15) it, 39⟩, bx]) kk =
  kk XE.normal [MV.ptr 0 0, u 1, u 2, u 3, u 4, iv left, iv right, iv top, iv bottom, iv (IntKind.wrap IntKind.i64 (row + 1)), iv k, u 11, u 12, u 13, u 14, u 15, u 16, u 17, u 18, u 19, u 20, u 21, u 22, u 23, u 24, u 25, u 26, u 27, u 28, u 29, u 30, u 31, u 32, u 33, u 34, u 35, u 36, u 37, u 38, u 39, u 40, u 41, u 42, u 43, u 44, u 45, u 46, u 47, u 48, u 49, u 50, u 51, u 52, u 53, u 54, u 55, iv row, iv (IntKind.wrap IntKind.i64 (row + 1)), u 58, u 59, u 60, u 61, u 62, u 63, u 64, u 65, u 66, u 67, u 68, u 69, u 70, u 71, u 72, u 73, u 74, u 75, u 76, u 77, u 78, u 79, u 80, u 81, u 82, u 83, u 84, u 85, u 86, u 87, u 88, u 89, u 90, u 91, u 92, u 93, u 94, u 95, u 96, u 97, u 98, u 99, u 100, u 101, u 102, u 103, u 104, u 105, u 106, u 107, u 108, u 109, u 110, u 111, u 112, u 113, u 114, u 115, u 116, u 117, u 118, u 119, u 120, u 121, u 122, u 123, u 124, u 125, u 126, u 127, u 128] [some { row := Row.rlst [iv X, iv Y, iv S, iv W, iv H, MV.va 2 0 n 15, MV.va 1 0 nc 1], ty := 90 }, some { row := Row.recs [some IntKind.i64] cs, ty := 2 }, some { row := Row.rrecs [some IntKind.i64, some IntKind.i64, some IntKind.i64, some IntKind.i64, some IntKind.i64, some IntKind.i64, some IntKind.i64, some IntKind.i64, some IntKind.i64, some IntKind.i64, some IntKind.i64, some IntKind.i64, some IntKind.i64, some IntKind.i64, some IntKind.i64] it, ty := 39 }, bx] := by kernel_rfl
def gridP (it : List (List Int)) (X Y S W left right : Int) : Nat → Int → List (List Int) → List (List Int)
 | 0, _, cs => cs
 | d + 1, row, cs => gridP it X Y S W left right d (row + 1) (rowP it X Y S W row (right - left).toNat left cs)
theorem gridP_len (it : List (List Int)) (X Y S W left right : Int) : ∀ (d : Nat) (row : Int) (cs : List (List Int)), (gridP it X Y S W left right d row cs).length = cs.length
 | 0, _, _ => rfl
 | d + 1, row, cs => by rw [gridP, gridP_len it X Y S W left right d, rowP_len]
section
variable (it : List (List Int)) (bx : Option Blk) (left right top bottom X Y S W H : Int) (n nc : Nat)
theorem out_loop (hn : it.length = n) (h1 : it.length ≤ 1000) (hW : 0 ≤ W) (hl : 0 ≤ left) (hlr : left ≤ right) (hrW : right ≤ W) (hbW : bottom * W ≤ nc) (hnc : nc ≤ 1000000) (hb0 : bottom ≤ 1000000) {tm : List MV} {row : Int} {cs : List (List Int)} {q : Nat}
  (h : IsTO tm left right top bottom row) (hr0 : 0 ≤ row) (hr : row ≤ bottom) (hcs : cs.length = nc) :
  XR Try.prog A3.env (cut c56 [1,1,1,0,1,0]) tm (MpA it bx X Y S W H n nc cs ++ List.replicate q none) (fun e tm' m' => e = .exit 0 ∧ IsTO tm' left right top bottom bottom ∧ ∃ q', m' = MpA it bx X Y S W H n nc (gridP it X Y S W left right (bottom - row).toNat row cs) ++ List.replicate q' none) := by
 have e : cut c56 [1,1,1,0,1,0] = .loop (.seq (cut c56 [1,1,1,0,1,0,0,0]) (.seq (.block 1 (.seq (cut c56 [1,1,1,0,1,0,0,1,0,0,0]) (.block 2 (cut c56 [1,1,1,0,1,0,0,1,0,0,1,0])))) (cut c56 [1,1,1,0,1,0,0,1,1]))) := by kernel_rfl
 refine XR.cast e ?_
 refine XR.loop (fun j tm m => ∃ (row' : Int) (cs' : List (List Int)) (q' : Nat), IsTO tm left right top bottom row' ∧ m = MpA it bx X Y S W H n nc cs' ++ List.replicate q' none ∧ 0 ≤ row' ∧ row' ≤ bottom ∧ cs'.length = nc ∧ j = (bottom - row').toNat ∧
  gridP it X Y S W left right (bottom - row').toNat row' cs' = gridP it X Y S W left right (bottom - row).toNat row cs) ?_ (j := (bottom - row).toNat) ⟨row, cs, q, h, rfl, hr0, hr, hcs, rfl, rfl⟩
 rintro j tm m ⟨row', cs', q', g1, rfl, g2, g3, g4, rfl, g5⟩
 refine XR.trim ?_
 obtain ⟨u, rfl⟩ := g1.eq
 refine XR.seq ?_
 by_cases hlt : row' < bottom
 ·have c1 : decide (row' < bottom) = true := decide_eq_true hlt
  have hm : row' * W + W ≤ nc := by
   have : (row' + 1) * W ≤ bottom * W := Int.mul_le_mul_of_nonneg_right (by omega) hW
   rw [Int.add_mul, Int.one_mul] at this
   omega
  have hm0 : 0 ≤ row' * W := Int.mul_nonneg g2 hW
  obtain ⟨tm1, a1, a2⟩ : ∃ tm', IsTO tm' left right top bottom row' ∧ ∀ kk : KE, xcode Try.prog E A3 1 (cut c56 [1,1,1,0,1,0,0,0]) (TO u left right top bottom row') (MpA it bx X Y S W H n nc cs') kk = kk .normal tm' (MpA it bx X Y S W H n nc cs') := by
   refine And_swap ?_
   apply Exists.intro
   refine ⟨fun kk => ?_, ?_⟩
   ·unfold MpA
    rw [outHead]
    simp only [c1, cond_true, Mp]
    rfl
   ·exact ⟨rfl, rfl, rfl, rfl, rfl, rfl, rfl⟩
  refine XR.of_x E_ok A3_ok mixed a2 ?_
  refine XR.seq ?_
  refine XR.block ?_
  refine XR.seq ?_
  obtain ⟨u1, rfl⟩ := a1.eq
  obtain ⟨tm2, b1, b2⟩ : ∃ tm', IsTM tm' left right top bottom row' left ∧ ∀ kk : KE, xcode Try.prog E A3 1 (cut c56 [1,1,1,0,1,0,0,1,0,0,0]) (TO u1 left right top bottom row') (MpA it bx X Y S W H n nc cs') kk = kk .normal tm' (MpA it bx X Y S W H n nc cs') := by
   refine And_swap ?_
   apply Exists.intro
   refine ⟨fun kk => ?_, ?_⟩
   ·unfold MpA
    rw [outInit]
    simp only [Mp]
    rfl
   ·exact ⟨rfl, rfl, rfl, rfl, rfl, rfl, rfl, rfl⟩
  refine XR.of_x E_ok A3_ok mixed b2 ?_
  refine XR.block ?_
  have hin := in_loop it bx left right top bottom X Y S W H n nc row' (cs := cs') (q := 0) hn h1 hm0 hl (by omega) hnc b1 hl hlr g4
  simp only [List.replicate_zero, List.append_nil] at hin
  refine hin.mono ?_
  rintro e1 tm3 m3 ⟨rfl, d1, q3, rfl⟩
  simp only [if_true]
  refine XR.trim ?_
  obtain ⟨u3, rfl⟩ := d1.eq
  obtain ⟨tm4, f1, f2⟩ : ∃ tm', IsTM tm' left right top bottom (row' + 1) right ∧ ∀ kk : KE, xcode Try.prog E A3 1 (cut c56 [1,1,1,0,1,0,0,1,1]) (TM u3 left right top bottom row' right) (MpA it bx X Y S W H n nc (rowP it X Y S W row' (right - left).toNat left cs')) kk = kk .normal tm' (MpA it bx X Y S W H n nc (rowP it X Y S W row' (right - left).toNat left cs')) := by
   have hw : w6 (row' + 1) = row' + 1 := w6_id (by omega) (by omega)
   refine And_swap ?_
   apply Exists.intro
   refine ⟨fun kk => ?_, ?_⟩
   ·unfold MpA
    rw [outNext]
    simp only [hw, Mp]
    rfl
   ·exact ⟨rfl, rfl, rfl, rfl, rfl, rfl, rfl, rfl⟩
  refine XR.of_x E_ok A3_ok mixed f2 ?_
  refine ⟨(bottom - (row' + 1)).toNat, by omega, row' + 1, rowP it X Y S W row' (right - left).toNat left cs', 0, f1.o, by simp, by omega, by omega, by rw [rowP_len]; exact g4, rfl, ?_⟩
  rw [← g5]
  have : (bottom - row').toNat = (bottom - (row' + 1)).toNat + 1 := by omega
  rw [this, gridP]
 ·have c1 : decide (row' < bottom) = false := decide_eq_false hlt
  obtain ⟨tm1, a1, a2⟩ : ∃ tm', IsTO tm' left right top bottom row' ∧ ∀ kk : KE, xcode Try.prog E A3 1 (cut c56 [1,1,1,0,1,0,0,0]) (TO u left right top bottom row') (MpA it bx X Y S W H n nc cs') kk = kk (.exit 0) tm' (MpA it bx X Y S W H n nc cs') := by
   refine And_swap ?_
   apply Exists.intro
   refine ⟨fun kk => ?_, ?_⟩
   ·unfold MpA
    rw [outHead]
    simp only [c1, cond_false, Mp]
    rfl
   ·exact ⟨rfl, rfl, rfl, rfl, rfl, rfl, rfl⟩
  refine XR.of_x E_ok A3_ok mixed a2 ?_
  have hb : row' = bottom := by omega
  subst hb
  refine ⟨rfl, a1, 0, ?_⟩
  have : (row' - row').toNat = 0 := by omega
  rw [this, gridP] at g5
  rw [← g5]
  simp
end
end Go.Proofs.Ytppklhfiajjhmaa.Ti
end
section
namespace Go.Proofs.Ytppklhfiajjhmaa.Y
open Go Go.RowKit
set_option linter.unusedVariables false
set_option linter.unusedSimpArgs false
mutual
def inb (U : Nat → Bool) : MV → Bool
 | .val _ => true
 | .ptr b _ => U b
 | .sl b _ _ _ => U b
 | .gs b _ _ _ => U b
 | .fn _ x y => inbL U x && inbL U y
 | .agg l => inbL U l
 | .tup l => inbL U l
 | .pe b _ _ _ => U b
 | .va b _ n _ => n == 0 || U b
 | .xs _ _ => true
 | .es => true
 | .any => true
def inbL (U : Nat → Bool) : List MV → Bool
 | [] => true
 | x :: l => inb U x && inbL U l
end
mutual
theorem inb_mono {U V : Nat → Bool} (h : ∀ b, U b = true → V b = true) : ∀ x : MV, inb U x = true → inb V x = true
 | .val _, _ => rfl
 | .ptr b o, e => h b e
 | .sl b _ _ _, e => h b e
 | .gs b _ _ _, e => h b e
 | .fn _ x y, e => by
  simp only [inb, Bool.and_eq_true] at e ⊢
  exact ⟨inbL_mono h x e.1, inbL_mono h y e.2⟩
 | .agg l, e => inbL_mono h l e
 | .tup l, e => inbL_mono h l e
 | .pe b _ _ _, e => h b e
 | .va b _ n _, e => by
  simp only [inb, Bool.or_eq_true] at e ⊢
  exact e.imp id (h b)
 | .xs _ _, _ => rfl
 | .es, _ => rfl
 | .any, _ => rfl
theorem inbL_mono {U V : Nat → Bool} (h : ∀ b, U b = true → V b = true) : ∀ l : List MV, inbL U l = true → inbL V l = true
 | [], _ => rfl
 | x :: l, e => by
  simp only [inbL, Bool.and_eq_true] at e ⊢
  exact ⟨inb_mono h x e.1, inbL_mono h l e.2⟩
end
theorem inbL_append (U : Nat → Bool) : ∀ a b : List MV, inbL U (a ++ b) = (inbL U a && inbL U b)
 | [], b => rfl
 | x :: a, b => by simp [inbL, inbL_append U a b, Bool.and_assoc]
theorem inb_recC (U : Nat → Bool) : ∀ (sh : List (Option IntKind)) (c : Nat) (r : List Int), inbL U (recC sh c r) = true
 | [], _, _ => rfl
 | some k :: sh, c, r => by simp [recC, inbL, inb, inb_recC U sh]
 | none :: sh, c, r => by simp [recC, inbL, inb, inb_recC U sh]
theorem inb_recs (U : Nat → Bool) (sh : List (Option IntKind)) : ∀ l : List (List Int), inbL U (l.flatMap (recC sh 0)) = true
 | [] => rfl
 | r :: l => by simp only [List.flatMap_cons, inbL_append, inb_recC, inb_recs U sh l, Bool.and_self]
def restr (U : Nat → Bool) (σ : Sg) : Sg := ⟨fun b => bif U b then σ.f b else none, σ.κ, σ.x, σ.off⟩
theorem restr_in {U : Nat → Bool} {σ : Sg} {b : Nat} (h : U b = true) : restr U σ b = σ b := by show (bif U b then σ.f b else none) = _; rw [h]; rfl
theorem restr_some {U : Nat → Bool} {σ : Sg} {b g : Nat} (h : restr U σ b = some g) : U b = true ∧ σ b = some g := by
 have h' : (bif U b then σ.f b else none) = some g := h
 cases hu : U b with
 | false => rw [hu] at h'; cases h'
 | true => rw [hu] at h'; exact ⟨rfl, h'⟩
mutual
theorem RV.restr {U : Nat → Bool} {σ : Sg} : ∀ (x : MV) (u : Value), inb U x = true → RV σ x u → RV (restr U σ) x u
 | .val v, u, _, e => by simp only [RV] at e ⊢; exact e
 | .ptr b o, u, h, e => by simp only [RV] at e ⊢; rw [restr_in h]; exact e
 | .sl b o n c, u, h, e => by simp only [RV] at e ⊢; rw [restr_in h]; exact e
 | .gs b o n s, u, h, e => by simp only [RV] at e ⊢; rw [restr_in h]; exact e
 | .fn f x y, u, h, e => by
  simp only [inb, Bool.and_eq_true] at h
  simp only [RV] at e ⊢; obtain ⟨xs, ys, e1, e2, e3⟩ := e
  exact ⟨xs, ys, RVs.restr x xs h.1 e1, RVs.restr y ys h.2 e2, e3⟩
 | .agg l, u, h, e => by simp only [RV] at e ⊢; obtain ⟨xs, e1, e2⟩ := e; exact ⟨xs, RVs.restr l xs h e1, e2⟩
 | .tup l, u, h, e => by simp only [RV] at e ⊢; obtain ⟨xs, e1, e2⟩ := e; exact ⟨xs, RVs.restr l xs h e1, e2⟩
 | .pe b s i o, u, h, e => by simp only [RV] at e ⊢; rw [restr_in h]; exact e
 | .va b i n s, u, h, e => by
  simp only [RV] at e ⊢; obtain ⟨A, c, e1, e2, e3⟩ := e
  refine ⟨A, c, e1, e2, fun hn => ?_⟩
  simp only [inb, Bool.or_eq_true, beq_iff_eq] at h
  rw [restr_in (h.resolve_left (by omega))]
  exact e3 hn
 | .xs x n, u, _, e => by simp only [RV] at e ⊢; exact e
 | .es, u, _, e => by simp only [RV] at e ⊢; exact e
 | .any, u, _, e => by simp only [RV] at e ⊢; exact e
theorem RVs.restr {U : Nat → Bool} {σ : Sg} : ∀ (l : List MV) (us : List Value), inbL U l = true → RVs σ l us → RVs (restr U σ) l us
 | [], us, _, e => by simp only [RVs] at e ⊢; exact e
 | x :: l, us, h, e => by
  simp only [inbL, Bool.and_eq_true] at h
  simp only [RVs] at e ⊢; obtain ⟨u, r, e1, e2, e3⟩ := e
  exact ⟨u, r, e1, RV.restr x u h.1 e2, RVs.restr l r h.2 e3⟩
end
theorem RM.restr {U : Nat → Bool} {base : Bs} {w0 : World} {σ : Sg} {m m' : Mem} {w : World} (h : RM base w0 σ m w) (hm : ∀ (b : Nat) (k : Blk), m'[b]? = some (some k) → U b = true → m[b]? = some (some k))
  (hc : ∀ (b : Nat) (k : Blk), m'[b]? = some (some k) → inbL U k.cells = true) (hd : ∀ (b : Nat) (k : Blk), U b = true → m[b]? = some (some k) → ∃ k' : Blk, m'[b]? = some (some k')) : RM base w0 (restr U σ) m' w := by
 refine ⟨fun b k g hk hg => ?_, fun b c g k l h1 h2 r1 r2 n1 n2 g1 g2 => ?_, fun b g hg => ?_, fun b g k hk hg => ?_, fun b g k hk hg => ?_, h.bel, h.base⟩
 ·obtain ⟨e1, e2⟩ := restr_some hg
  obtain ⟨pre, cs, rest, a1, a2, a3, a4, a5⟩ := h.blk b k g (hm b k hk e1) e2
  exact ⟨pre, cs, rest, a1, RVs.restr _ _ (hc b k hk) a2, a3, a4, a5⟩
 ·obtain ⟨e1, e2⟩ := restr_some g1
  obtain ⟨e3, e4⟩ := restr_some g2
  exact h.inj b c g k l (hm b k h1 e1) (hm c l h2 e3) r1 r2 n1 n2 e2 e4
 ·obtain ⟨e1, e2⟩ := restr_some hg
  obtain ⟨k, hk⟩ := h.dom b g e2
  exact hd b k e1 hk
 ·obtain ⟨e1, e2⟩ := restr_some hg
  exact h.lo b g k (hm b k hk e1) e2
 ·obtain ⟨e1, e2⟩ := restr_some hg
  exact h.hi b g k (hm b k hk e1) e2
section
variable {P : Program} {E : Eqs} {C : Ctx} {X : Env}
theorem XF.forget {f : Nat} {args : List MV} {m : Mem} {S : MV → Mem → Prop} (h : XF P X f args m (fun v m' => ∃ m1 junk, m' = m1 ++ junk ∧ m.length ≤ m1.length ∧ inb (fun b => decide (b < m1.length)) v = true ∧
  (∀ (b : Nat) (k : Blk), m1[b]? = some (some k) → inbL (fun b => decide (b < m1.length)) k.cells = true) ∧ S v m1)) : XF P X f args m S := by
 intro base w0 σ us w hX hu hM
 refine Calls.mono (h base w0 σ us w hX hu hM) ?_
 rintro e w' ⟨v, m', σ', u, ⟨m1, junk, rfl, hl, hv, hc, hS⟩, h1, h2, h3, h4⟩
 refine ⟨v, m1, Y.restr (fun b => decide (b < m1.length)) σ', u, hS, h1, ⟨h2.x, fun b g hb => ?_⟩, RV.restr _ _ hv h3, RM.restr h4 (fun b k hk hb => ?_) hc (fun b k hb hk => ?_)⟩
 ·obtain ⟨k, hk⟩ := hM.dom b g hb
  have hbl := (List.getElem?_eq_some_iff.1 hk).1
  obtain ⟨e1, e2⟩ := h2.to b g hb
  exact ⟨by rw [restr_in (by simp; omega)]; exact e1, e2⟩
 ·rw [List.getElem?_append_left (by simpa using hb)]; exact hk
 ·rw [List.getElem?_append_left (by simpa using hb)] at hk; exact ⟨k, hk⟩
theorem XF.z {Z : Nat → Bool} {f : Nat} {args : List MV} {m m1 : Mem} {v1 : MV} (h : XF P X f args m (fun v m => v = v1 ∧ m = m1)) (hv : inb (fun b => !Z b) v1 = true)
  (hc : ∀ (b : Nat) (k : Blk), m1[b]? = some (some k) → inbL (fun b => !Z b) k.cells = true) : XFz P X Z f args m v1 m1 := by
 intro base w0 σ us w hX hu hM
 refine Calls.mono (h base w0 σ us w hX hu hM) ?_
 rintro e w' ⟨v, m', σ', u, ⟨rfl, rfl⟩, h1, h2, h3, h4⟩
 have mono : ∀ b, (!Z b) = true → (!Z b || (σ b).isSome) = true := by intro b hb; rw [hb]; rfl
 refine ⟨Y.restr (fun b => !Z b || (σ b).isSome) σ', u, h1, ⟨h2.x, fun b g hb => ?_⟩, RV.restr _ _ (inb_mono mono _ hv) h3, RM.restr h4 (fun b k hk _ => hk) (fun b k hk => inbL_mono mono _ (hc b k hk)) (fun b k _ hk => ⟨k, hk⟩), fun i hz hs => ?_⟩
 ·obtain ⟨e1, e2⟩ := h2.to b g hb
  exact ⟨by rw [restr_in (by rw [hb]; simp)]; exact e1, e2⟩
 ·show (bif (!Z i || (σ i).isSome) then σ'.f i else none) = none
  rw [hz, hs]; rfl
structure ExtN (n : Nat) (σ τ : Sg) : Prop where
 x : τ.x = σ.x
 to : ∀ b g, b < n → σ b = some g → τ b = some g ∧ τ.κ b = σ.κ b ∧ τ.off b = σ.off b
theorem ExtN.trans {n : Nat} {σ τ υ : Sg} (h : ExtN n σ τ) (k : ExtN n τ υ) : ExtN n σ υ := ⟨k.x.trans h.x, fun b g hb e => ⟨(k.to b g hb (h.to b g hb e).1).1, (k.to b g hb (h.to b g hb e).1).2.1.trans (h.to b g hb e).2.1, (k.to b g hb (h.to b g hb e).1).2.2.trans (h.to b g hb e).2.2⟩⟩
theorem ExtN.refl (n : Nat) (σ : Sg) : ExtN n σ σ := ⟨rfl, fun _ _ _ h => ⟨h, rfl, rfl⟩⟩
theorem Ext.n {σ τ : Sg} (h : Ext σ τ) (n : Nat) : ExtN n σ τ := ⟨h.x, fun b g _ e => h.to b g e⟩
def XN (P : Program) (X : Env) (n : Nat) (c : Code) (tm : List MV) (m : Mem) (S : XE → List MV → Mem → Prop) : Prop :=
 ∀ base w0 σ a w (Q : Exit → Act → World → Prop), X base w0 σ.x → Rel base w0 σ tm m a w →
  (∀ e tm' m' σ' a' w', S e tm' m' → ExtN n σ σ' → Rel base w0 σ' tm' m' a' w' → Q e.out a' w') → c.wp P Q a w
theorem XR.n {n : Nat} {c : Code} {tm : List MV} {m : Mem} {S : XE → List MV → Mem → Prop} (h : XR P X c tm m S) : XN P X n c tm m S :=
 fun base w0 σ a w Q hX hR hK => h base w0 σ a w Q hX hR (fun e t m σ' a' w' hs hx => hK e t m σ' a' w' hs (hx.n n))
theorem XN.of_x {n0 : Nat} (hE : EqOk P E) (hC : COk P C) (hm : P.follows .mixedOrders = true) {n : Nat} {c : Code} {tm tm' : List MV} {m m' : Mem} {e : XE} {S : XE → List MV → Mem → Prop}
  (h : ∀ k : KE, xcode P E C n c tm m k = k e tm' m') (hS : S e tm' m') : XN P C.env n0 c tm m S := XR.n (XR.of_x hE hC hm h hS)
theorem XN.mono {n : Nat} {c : Code} {tm : List MV} {m : Mem} {S T : XE → List MV → Mem → Prop} (h : XN P X n c tm m S) (hST : ∀ e t m, S e t m → T e t m) : XN P X n c tm m T :=
 fun base w0 σ a w Q hX hR hK => h base w0 σ a w Q hX hR (fun e t m σ' a' w' hs => hK e t m σ' a' w' (hST e t m hs))
theorem XN.cast {n : Nat} {c c' : Code} {tm : List MV} {m : Mem} {S : XE → List MV → Mem → Prop} (e : c = c') (h : XN P X n c' tm m S) : XN P X n c tm m S := by rw [e]; exact h
theorem XN.seq {n : Nat} {a b : Code} {tm : List MV} {m : Mem} {S : XE → List MV → Mem → Prop}
  (h : XN P X n a tm m (fun e tm m => match e with
   | .normal => XN P X n b tm m S
   | .exit id => S (.exit id) tm m
   | .ret => S .ret tm m)) : XN P X n (.seq a b) tm m S := by
 intro base w0 σ ac w Q hX hR hK
 refine wp_seq (h base w0 σ ac w _ hX hR ?_)
 intro e tm' m' σ' a' w' h1 h2 h3
 cases e with
 | normal => exact h1 base w0 σ' a' w' Q (by rw [h2.x]; exact hX) h3 (fun e t m υ a'' w'' g1 g2 g3 => hK e t m υ a'' w'' g1 (h2.trans g2) g3)
 | exit id => exact hK (.exit id) _ _ σ' a' w' h1 h2 h3
 | ret => exact hK .ret _ _ σ' a' w' h1 h2 h3
theorem XN.seq_x {n0 : Nat} (hE : EqOk P E) (hC : COk P C) (hm : P.follows .mixedOrders = true) {n : Nat} {a b : Code} {tm tm' : List MV} {m m' : Mem} {S : XE → List MV → Mem → Prop}
  (h : ∀ k : KE, xcode P E C n a tm m k = k .normal tm' m') (hb : XN P C.env n0 b tm' m' S) : XN P C.env n0 (.seq a b) tm m S :=
 XN.seq (XN.of_x hE hC hm h hb)
theorem XN.block {n : Nat} {id : Nat} {c : Code} {tm : List MV} {m : Mem} {S : XE → List MV → Mem → Prop}
  (h : XN P X n c tm m (fun e tm m => match e with
   | .normal => S .normal tm m
   | .exit i => if i = id then S .normal tm m else S (.exit i) tm m
   | .ret => S .ret tm m)) : XN P X n (.block id c) tm m S := by
 intro base w0 σ ac w Q hX hR hK
 refine wp_block (h base w0 σ ac w _ hX hR ?_)
 intro e tm' m' σ' a' w' h1 h2 h3
 cases e with
 | normal => exact hK .normal _ _ σ' a' w' h1 h2 h3
 | exit i =>
  simp only [XE.out, Exit.inBlock]
  simp only at h1
  split at h1
  ·rename_i hi
   rw [if_pos hi]
   exact hK .normal _ _ σ' a' w' h1 h2 h3
  ·rename_i hi
   rw [if_neg hi]
   exact hK (.exit i) _ _ σ' a' w' h1 h2 h3
 | ret => exact hK .ret _ _ σ' a' w' h1 h2 h3
theorem XN.loop {n : Nat} (Inv : Nat → List MV → Mem → Prop) {c : Code} {S : XE → List MV → Mem → Prop}
  (hb : ∀ j tm m, Inv j tm m → XN P X n c tm m (fun e tm' m' => match e with
   | .normal => ∃ j', j' < j ∧ Inv j' tm' m'
   | .exit id => S (.exit id) tm' m'
   | .ret => S .ret tm' m')) {j : Nat} {tm : List MV} {m : Mem} (h : Inv j tm m) : XN P X n (.loop c) tm m S := by
 intro base w0 σ a w Q hX hR hK b kk cs
 have key : ∀ j tm m σ' a w, Inv j tm m → ExtN n σ σ' → Rel base w0 σ' tm m a w →
   ∃ e a' w', Q e a' w' ∧ Arrives P (lone (b.at a (.code c :: .inLoop c :: kk)) cs w) b kk cs e a' w' := by
  intro j
  induction j using Nat.strongRecOn with
  | _ j ihj =>
   intro tm m σ' a w hI hx hR
   have hw := hb j tm m hI base w0 σ' a w (fun e a' w' => match e with
    | .normal => ∃ j' tm' m' σ'', j' < j ∧ Inv j' tm' m' ∧ ExtN n σ σ'' ∧ Rel base w0 σ'' tm' m' a' w'
    | e => Q e a' w') (by rw [hx.x]; exact hX) hR (by
     intro e tm' m' σ'' a' w' h1 h2 h3
     cases e with
     | normal => obtain ⟨j', g1, g2⟩ := h1; exact ⟨j', tm', m', σ'', g1, g2, hx.trans h2, h3⟩
     | exit id => exact hK (.exit id) tm' m' σ'' a' w' h1 (hx.trans h2) h3
     | ret => exact hK .ret tm' m' σ'' a' w' h1 (hx.trans h2) h3)
   obtain ⟨e, a₁, w₁, hq, harr⟩ := hw b (.inLoop c :: kk) cs
   cases e with
   | normal =>
    obtain ⟨j', tm', m', σ'', g0, g1, g2, g3⟩ := hq
    obtain ⟨e₂, a₂, w₂, hq₂, harr₂⟩ := ihj j' g0 tm' m' σ'' a₁ w₁ g1 g2 g3
    exact ⟨e₂, a₂, w₂, hq₂, .of_steps (Steps.trans harr (.one step_inLoop)) harr₂⟩
   | exit id => exact ⟨_, a₁, w₁, hq, .pass (x := .inLoop c) rfl (fun _ _ => .inl (by simp)) harr⟩
   | goto l => exact ⟨_, a₁, w₁, hq, .pass (x := .inLoop c) rfl (fun _ _ => .inl (by simp)) harr⟩
   | ret => exact ⟨_, a₁, w₁, hq, .pass (x := .inLoop c) rfl (fun _ _ => .inl (by simp)) harr⟩
   | panic ch => exact ⟨_, a₁, w₁, hq, .pass (x := .inLoop c) rfl (fun _ _ => .inl (by simp)) harr⟩
   | outgrown => exact ⟨_, a₁, w₁, hq, .pass (x := .inLoop c) rfl (fun _ _ => .inl (by simp)) harr⟩
 obtain ⟨e, a', w', hq, harr⟩ := key j tm m σ a w h (ExtN.refl n σ) hR
 exact ⟨e, a', w', hq, .of_steps (.one step_loop) harr⟩
theorem keep_tm {U K : Nat → Bool} {σ : Sg} : ∀ (l : List MV) (us : List Value) (j : Nat), RVs σ l us → (∀ i x, K (j + i) = true → l[i]? = some x → inb U x = true) →
  ∃ l', l'.length = l.length ∧ (∀ i, K (j + i) = true → l'[i]? = l[i]?) ∧ RVs (restr U σ) l' us
 | [], us, j, h, _ => ⟨[], rfl, fun _ _ => rfl, by simp only [RVs] at h ⊢; exact h⟩
 | x :: l, us, j, h, hk => by
  simp only [RVs] at h
  obtain ⟨u, r, rfl, h1, h2⟩ := h
  obtain ⟨l', e1, e2, e3⟩ := keep_tm l r (j + 1) h2 (fun i y hK hy => hk (i + 1) y (by rw [show j + (i + 1) = j + 1 + i by omega]; exact hK) (by simpa using hy))
  cases hj : K j with
  | true => exact ⟨x :: l', by simp [e1], fun i hi => by
    cases i with
    | zero => rfl
    | succ i => simpa using e2 i (by rw [show j + 1 + i = j + (i + 1) by omega]; exact hi), by
    simp only [RVs]
    exact ⟨u, r, rfl, RV.restr _ _ (hk 0 x hj rfl) h1, e3⟩⟩
  | false => exact ⟨.val u :: l', by simp [e1], fun i hi => by
    cases i with
    | zero => simp [hj] at hi
    | succ i => simpa using e2 i (by rw [show j + 1 + i = j + (i + 1) by omega]; exact hi), by
    simp only [RVs]
    exact ⟨u, r, rfl, rfl, e3⟩⟩
theorem XN.drop {n : Nat} {K : Nat → Bool} {c : Code} {tm : List MV} {m junk : Mem} {S : XE → List MV → Mem → Prop} (hn : n ≤ m.length)
  (hK : ∀ i x, K i = true → tm[i]? = some x → inb (fun b => decide (b < m.length)) x = true)
  (hm : ∀ (b : Nat) (k : Blk), m[b]? = some (some k) → inbL (fun b => decide (b < m.length)) k.cells = true)
  (h : ∀ tm', tm'.length = tm.length → (∀ i, K i = true → tm'[i]? = tm[i]?) → XN P X n c tm' m S) : XN P X n c tm (m ++ junk) S := by
 intro base w0 σ a w Q hX hR hQ
 obtain ⟨tm', e1, e2, e3⟩ := keep_tm (U := fun b => decide (b < m.length)) (K := K) tm a.tmps.toList 0 hR.tm (fun i x hi hx => hK i x (by simpa using hi) hx)
 have hM := hR.mem
 refine h tm' e1 (fun i hi => e2 i (by simpa using hi)) base w0 (restr (fun b => decide (b < m.length)) σ) a w Q hX ⟨hR.df, e3, ?_⟩ ?_
 ·refine RM.restr hM (fun b k hk hb => ?_) hm (fun b k hb hk => ?_)
  ·rw [List.getElem?_append_left (by simpa using hb)]; exact hk
  ·rw [List.getElem?_append_left (by simpa using hb)] at hk; exact ⟨k, hk⟩
 ·intro e t m' σ' a' w' hs hx hr
  refine hQ e t m' σ' a' w' hs ⟨hx.x, fun b g hb hg => ?_⟩ hr
  exact hx.to b g hb (by rw [restr_in (by simp; omega)]; exact hg)
theorem XF.of_codeN {f : Nat} {fn : Func} {c : Code} (hf : P.funcs[f]? = some fn) (hb : fn.body = some c) {args : List MV} {m : Mem} {S : MV → Mem → Prop}
  (h : XN P X m.length c (args ++ List.replicate (fn.ntmps - args.length) (.val undef)) m (fun e tm' m' => match e with
   | .exit _ => False
   | _ => ∃ vs, xres P tm' m' fn.results.toList = some vs ∧ S (xpack vs) m')) : XF P X f args m S := by
 refine XF.of_code hf hb ?_
 intro base w0 σ a w Q hX hR hK
 refine h base w0 σ a w Q hX hR (fun e t m' σ' a' w' hs hx hr => hK e t m' σ' a' w' hs ⟨hx.x, fun b g hg => ?_⟩ hr)
 obtain ⟨k, hk⟩ := hR.mem.dom b g hg
 exact hx.to b g (List.getElem?_eq_some_iff.1 hk).1 hg
end
end Go.Proofs.Ytppklhfiajjhmaa.Y
end
section
namespace Go.Proofs.Ytppklhfiajjhmaa.Ti
open Go Go.RowKit Go.Proofs.Ytppklhfiajjhmaa.Y
set_option linter.unusedVariables false
set_option linter.unusedSimpArgs false
def TB (u : Nat → MV) (left right : MV) : List MV :=
 [.ptr 0 0, u 1, u 2, .ptr 3 0, u 4, left, right] ++ (List.range 122).map (fun i => u (i + 7))
structure IsTB (tm : List MV) (left right : MV) : Prop where
 len : tm.length = 129
 h0 : tm[0]? = some (.ptr 0 0)
 h3 : tm[3]? = some (.ptr 3 0)
 h5 : tm[5]? = some left
 h6 : tm[6]? = some right
theorem IsTB.eq {tm : List MV} {left right : MV} (h : IsTB tm left right) : ∃ u, tm = TB u left right := by
 refine ⟨fun i => tm.getD i (.val undef), list_eq (p := [.ptr 0 0, _, _, .ptr 3 0, _, left, right]) h.len (by simp) (fun i hi => ?_)⟩
 match i, hi with
 | 0, _ => exact h.h0
 | 1, _ => exact get_u h.len (by omega)
 | 2, _ => exact get_u h.len (by omega)
 | 3, _ => exact h.h3
 | 4, _ => exact get_u h.len (by omega)
 | 5, _ => exact h.h5
 | 6, _ => exact h.h6
def TD (u : Nat → MV) (left right top bottom : Int) : List MV :=
 [.ptr 0 0, u 1, u 2, u 3, u 4, iv left, iv right, iv top, iv bottom] ++ (List.range 120).map (fun i => u (i + 9))
structure IsTD (tm : List MV) (left right top bottom : Int) : Prop where
 len : tm.length = 129
 h0 : tm[0]? = some (.ptr 0 0)
 h5 : tm[5]? = some (iv left)
 h6 : tm[6]? = some (iv right)
 h7 : tm[7]? = some (iv top)
 h8 : tm[8]? = some (iv bottom)
theorem IsTD.eq {tm : List MV} {left right top bottom : Int} (h : IsTD tm left right top bottom) : ∃ u, tm = TD u left right top bottom := by
 refine ⟨fun i => tm.getD i (.val undef), list_eq (p := [.ptr 0 0, _, _, _, _, iv left, iv right, iv top, iv bottom]) h.len (by simp) (fun i hi => ?_)⟩
 match i, hi with
 | 0, _ => exact h.h0
 | 1, _ => exact get_u h.len (by omega)
 | 2, _ => exact get_u h.len (by omega)
 | 3, _ => exact get_u h.len (by omega)
 | 4, _ => exact get_u h.len (by omega)
 | 5, _ => exact h.h5
 | 6, _ => exact h.h6
 | 7, _ => exact h.h7
 | 8, _ => exact h.h8
set_option maxRecDepth 100000 in
theorem pR0 (x0 y0 x1 y1 X Y S W H : Int) (n nc : Nat) (cs it : List (List Int)) (kk : KE) : xcode Try.prog E A3 1 (cut c56 [0]) ([.ptr 0 0, .agg [iv x0, iv y0, iv x1, iv y1]] ++ List.replicate 127 (.val undef)) (Mp X Y S W H (.va 2 0 n 15) nc cs [some ⟨.rrecs (i64s 15) it, 39⟩]) kk =
  kk XE.normal [MV.ptr 0 0, MV.agg [iv x0, iv y0, iv x1, iv y1], MV.val (Value.tuple { toList := [] }), MV.ptr 3 0, iv 0, MV.val (Value.tuple { toList := [] }), MV.val (Value.tuple { toList := [] }), MV.val (Value.tuple { toList := [] }), MV.val (Value.tuple { toList := [] }), MV.val (Value.tuple { toList := [] }), MV.val (Value.tuple { toList := [] }), MV.val (Value.tuple { toList := [] }), MV.val (Value.tuple { toList := [] }), MV.val (Value.tuple { toList := [] }), MV.val (Value.tuple { toList := [] }), MV.val (Value.tuple { toList := [] }), MV.val (Value.tuple { toList := [] }), MV.val (Value.tuple { toList := [] }), MV.val (Value.tuple { toList := [] }), MV.val (Value.tuple { toList := [] }), MV.val (Value.tuple { toList := [] }), MV.val (Value.tuple { toList := [] }), MV.val (Value.tuple { toList := [] }), MV.val (Value.tuple { toList := [] }), MV.val (Value.tuple { toList := [] }), MV.val (Value.tuple { toList := [] }), MV.val (Value.tuple { toList := [] }), MV.val (Value.tuple { toList := [] }), MV.val (Value.tuple { toList := [] }), MV.val (Value.tuple { toList := [] }), MV.val (Value.tuple { toList := [] }), MV.val (Value.tuple { toList := [] }), MV.val (Value.tuple { toList := [] }), MV.val (Value.tuple { toList := [] }), MV.val (Value.tuple { toList := [] }), MV.val (Value.tuple { toList := [] }), MV.val (Value.tuple { toList := [] }), MV.val (Value.tuple { toList := [] }), MV.val (Value.tuple { toList := [] }), MV.val (Value.tuple { toList := [] }), MV.val (Value.tuple { toList := [] }), MV.val (Value.tuple { toList := [] }), MV.val (Value.tuple { toList := [] }), MV.val (Value.tuple { toList := [] }), MV.val (Value.tuple { toList := [] }), MV.val (Value.tuple { toList := [] }), MV.val (Value.tuple { toList := [] }), MV.val (Value.tuple { toList := [] }), MV.val (Value.tuple { toList := [] }), MV.val (Value.tuple { toList := [] }), MV.val (Value.tuple { toList := [] }), MV.val (Value.tuple { toList := [] }), MV.val (Value.tuple { toList := [] }), MV.val (Value.tuple { toList := [] }), MV.val (Value.tuple { toList := [] }), MV.val (Value.tuple { toList := [] }), MV.val (Value.tuple { toList := [] }), MV.val (Value.tuple { toList := [] }), MV.val (Value.tuple { toList := [] }), MV.val (Value.tuple { toList := [] }), MV.val (Value.tuple { toList := [] }), MV.val (Value.tuple { toList := [] }), MV.val (Value.tuple { toList := [] }), MV.val (Value.tuple { toList := [] }), MV.val (Value.tuple { toList := [] }), MV.val (Value.tuple { toList := [] }), MV.val (Value.tuple { toList := [] }), MV.val (Value.tuple { toList := [] }), MV.val (Value.tuple { toList := [] }), MV.val (Value.tuple { toList := [] }), MV.val (Value.tuple { toList := [] }), MV.val (Value.tuple { toList := [] }), MV.val (Value.tuple { toList := [] }), MV.val (Value.tuple { toList := [] }), MV.val (Value.tuple { toList := [] }), MV.val (Value.tuple { toList := [] }), MV.val (Value.tuple { toList := [] }), MV.val (Value.tuple { toList := [] }), MV.val (Value.tuple { toList := [] }), MV.val (Value.tuple { toList := [] }), MV.val (Value.tuple { toList := [] }), MV.val (Value.tuple { toList := [] }), MV.val (Value.tuple { toList := [] }), MV.val (Value.tuple { toList := [] }), MV.val (Value.tuple { toList := [] }), MV.val (Value.tuple { toList := [] }), MV.val (Value.tuple { toList := [] }), MV.val (Value.tuple { toList := [] }), MV.val (Value.tuple { toList := [] }), MV.val (Value.tuple { toList := [] }), MV.val (Value.tuple { toList := [] }), MV.val (Value.tuple { toList := [] }), MV.val (Value.tuple { toList := [] }), MV.val (Value.tuple { toList := [] }), MV.val (Value.tuple { toList := [] }), MV.val (Value.tuple { toList := [] }), MV.val (Value.tuple { toList := [] }), MV.val (Value.tuple { toList := [] }), MV.val (Value.tuple { toList := [] }), MV.val (Value.tuple { toList := [] }), MV.val (Value.tuple { toList := [] }), MV.val (Value.tuple { toList := [] }), MV.val (Value.tuple { toList := [] }), MV.val (Value.tuple { toList := [] }), MV.val (Value.tuple { toList := [] }), MV.val (Value.tuple { toList := [] }), MV.val (Value.tuple { toList := [] }), MV.val (Value.tuple { toList := [] }), MV.val (Value.tuple { toList := [] }), MV.val (Value.tuple { toList := [] }), MV.val (Value.tuple { toList := [] }), MV.val (Value.tuple { toList := [] }), MV.val (Value.tuple { toList := [] }), MV.val (Value.tuple { toList := [] }), MV.val (Value.tuple { toList := [] }), MV.val (Value.tuple { toList := [] }), MV.val (Value.tuple { toList := [] }), MV.val (Value.tuple { toList := [] }), MV.val (Value.tuple { toList := [] }), MV.val (Value.tuple { toList := [] }), MV.val (Value.tuple { toList := [] }), MV.val (Value.tuple { toList := [] }), MV.val (Value.tuple { toList := [] }), MV.val (Value.tuple { toList := [] }), MV.val (Value.tuple { toList := [] }), MV.val (Value.tuple { toList := [] }), MV.val (Value.tuple { toList := [] }), MV.val (Value.tuple { toList := [] }), MV.val (Value.tuple { toList := [] })] [some { row := Row.rlst [iv X, iv Y, iv S, iv W, iv H, MV.va 2 0 n 15, MV.va 1 0 nc 1], ty := 90 }, some { row := Row.recs [some IntKind.i64] cs, ty := 2 }, some { row := Row.rrecs [some IntKind.i64, some IntKind.i64, some IntKind.i64, some IntKind.i64, some IntKind.i64, some IntKind.i64, some IntKind.i64, some IntKind.i64, some IntKind.i64, some IntKind.i64, some IntKind.i64, some IntKind.i64, some IntKind.i64, some IntKind.i64, some IntKind.i64] it, ty := 39 }, some { row := Row.lst [iv x0, iv y0, iv x1, iv y1], ty := 37 }] := by kernel_rfl
set_option maxRecDepth 100000 in
theorem pR1 (u : Nat → MV) (l r : MV) (x0 y0 x1 y1 X Y S W H : Int) (n nc : Nat) (cs it : List (List Int)) (kk : KE) : xcode Try.prog E A3 1 (cut c56 [1,0]) (TB u l r) (Mp X Y S W H (.va 2 0 n 15) nc cs [some ⟨.rrecs (i64s 15) it, 39⟩, some ⟨.lst [iv x0, iv y0, iv x1, iv y1], 37⟩]) kk =
  bif !decide (S = 0) then kk XE.normal [MV.ptr 0 0, u 1, u 2, MV.ptr 3 0, u 4, iv (loI X x0 S W), iv (hiI X x0 x1 S W), u 7, u 8, u 9, u 10, u 11, u 12, u 13, MV.tup [iv (loI X x0 S W), iv (hiI X x0 x1 S W)], MV.ptr 0 0, MV.ptr 0 0, MV.ptr 0 0, MV.ptr 0 0, MV.ptr 0 0, iv X, MV.ptr 3 0, iv x0, MV.ptr 3 2, iv x1, MV.ptr 0 0, MV.ptr 0 0, MV.ptr 0 0, MV.ptr 0 3, iv W, MV.tup [iv (loI X x0 S W), iv (hiI X x0 x1 S W)], iv (loI X x0 S W), iv (hiI X x0 x1 S W), u 33, u 34, u 35, u 36, u 37, u 38, u 39, u 40, u 41, u 42, u 43, u 44, u 45, u 46, u 47, u 48, u 49, u 50, u 51, u 52, u 53, u 54, u 55, u 56, u 57, u 58, u 59, u 60, u 61, u 62, u 63, u 64, u 65, u 66, u 67, u 68, u 69, u 70, u 71, u 72, u 73, u 74, u 75, u 76, u 77, u 78, u 79, u 80, u 81, u 82, u 83, u 84, u 85, u 86, u 87, u 88, u 89, u 90, u 91, u 92, u 93, u 94, u 95, u 96, u 97, u 98, u 99, u 100, u 101, u 102, u 103, u 104, u 105, u 106, u 107, u 108, u 109, u 110, u 111, u 112, u 113, u 114, u 115, u 116, u 117, u 118, u 119, u 120, u 121, u 122, u 123, u 124, u 125, u 126, u 127, u 128] [some { row := Row.rlst [iv X, iv Y, iv S, iv W, iv H, MV.va 2 0 n 15, MV.va 1 0 nc 1], ty := 90 }, some { row := Row.recs [some IntKind.i64] cs, ty := 2 }, some { row := Row.rrecs [some IntKind.i64, some IntKind.i64, some IntKind.i64, some IntKind.i64, some IntKind.i64, some IntKind.i64, some IntKind.i64, some IntKind.i64, some IntKind.i64, some IntKind.i64, some IntKind.i64, some IntKind.i64, some IntKind.i64, some IntKind.i64, some IntKind.i64] it, ty := 39 }, some { row := Row.lst [iv x0, iv y0, iv x1, iv y1], ty := 37 }, none, none, none, none, none, none, none, none, none, none, none, none, none, none, none, none, none, none, none, none, none] else none := by kernel_rfl
set_option maxRecDepth 100000 in
theorem pR2 (u : Nat → MV) (l r : MV) (x0 y0 x1 y1 X Y S W H : Int) (n nc : Nat) (cs it : List (List Int)) (kk : KE) : xcode Try.prog E A3 1 (cut c56 [1,1,0]) (TB u l r) (Mp X Y S W H (.va 2 0 n 15) nc cs [some ⟨.rrecs (i64s 15) it, 39⟩, some ⟨.lst [iv x0, iv y0, iv x1, iv y1], 37⟩]) kk =
  bif !decide (S = 0) then kk XE.normal [MV.ptr 0 0, u 1, u 2, MV.ptr 3 0, u 4, l, r, iv (loI Y y0 S H), iv (hiI Y y0 y1 S H), u 9, u 10, u 11, u 12, u 13, u 14, u 15, u 16, u 17, u 18, u 19, u 20, u 21, u 22, u 23, u 24, u 25, u 26, u 27, u 28, u 29, u 30, u 31, u 32, MV.tup [iv (loI Y y0 S H), iv (hiI Y y0 y1 S H)], MV.ptr 0 0, MV.ptr 0 0, MV.ptr 0 0, MV.ptr 0 0, MV.ptr 0 1, iv Y, MV.ptr 3 1, iv y0, MV.ptr 3 3, iv y1, MV.ptr 0 0, MV.ptr 0 0, MV.ptr 0 0, MV.ptr 0 4, iv H, MV.tup [iv (loI Y y0 S H), iv (hiI Y y0 y1 S H)], iv (loI Y y0 S H), iv (hiI Y y0 y1 S H), u 52, u 53, u 54, u 55, u 56, u 57, u 58, u 59, u 60, u 61, u 62, u 63, u 64, u 65, u 66, u 67, u 68, u 69, u 70, u 71, u 72, u 73, u 74, u 75, u 76, u 77, u 78, u 79, u 80, u 81, u 82, u 83, u 84, u 85, u 86, u 87, u 88, u 89, u 90, u 91, u 92, u 93, u 94, u 95, u 96, u 97, u 98, u 99, u 100, u 101, u 102, u 103, u 104, u 105, u 106, u 107, u 108, u 109, u 110, u 111, u 112, u 113, u 114, u 115, u 116, u 117, u 118, u 119, u 120, u 121, u 122, u 123, u 124, u 125, u 126, u 127, u 128] [some { row := Row.rlst [iv X, iv Y, iv S, iv W, iv H, MV.va 2 0 n 15, MV.va 1 0 nc 1], ty := 90 }, some { row := Row.recs [some IntKind.i64] cs, ty := 2 }, some { row := Row.rrecs [some IntKind.i64, some IntKind.i64, some IntKind.i64, some IntKind.i64, some IntKind.i64, some IntKind.i64, some IntKind.i64, some IntKind.i64, some IntKind.i64, some IntKind.i64, some IntKind.i64, some IntKind.i64, some IntKind.i64, some IntKind.i64, some IntKind.i64] it, ty := 39 }, some { row := Row.lst [iv x0, iv y0, iv x1, iv y1], ty := 37 }, none, none, none, none, none, none, none, none, none, none, none, none, none, none, none, none, none, none, none, none, none] else none := by kernel_rfl
set_option maxRecDepth 100000 in
theorem pR3 (u : Nat → MV) (left right top bottom X Y S W H : Int) (n nc : Nat) (cs it : List (List Int)) (bx : Option Blk) (kk : KE) : xcode Try.prog E A3 1 (cut c56 [1,1,1,0,0]) (TD u left right top bottom) (Mp X Y S W H (.va 2 0 n 15) nc cs [some ⟨.rrecs (i64s 15) it, 39⟩, bx]) kk =
  kk XE.normal [MV.ptr 0 0, u 1, u 2, u 3, u 4, iv left, iv right, iv top, iv bottom, iv top, u 10, u 11, u 12, u 13, u 14, u 15, u 16, u 17, u 18, u 19, u 20, u 21, u 22, u 23, u 24, u 25, u 26, u 27, u 28, u 29, u 30, u 31, u 32, u 33, u 34, u 35, u 36, u 37, u 38, u 39, u 40, u 41, u 42, u 43, u 44, u 45, u 46, u 47, u 48, u 49, u 50, u 51, iv top, u 53, u 54, u 55, u 56, u 57, u 58, u 59, u 60, u 61, u 62, u 63, u 64, u 65, u 66, u 67, u 68, u 69, u 70, u 71, u 72, u 73, u 74, u 75, u 76, u 77, u 78, u 79, u 80, u 81, u 82, u 83, u 84, u 85, u 86, u 87, u 88, u 89, u 90, u 91, u 92, u 93, u 94, u 95, u 96, u 97, u 98, u 99, u 100, u 101, u 102, u 103, u 104, u 105, u 106, u 107, u 108, u 109, u 110, u 111, u 112, u 113, u 114, u 115, u 116, u 117, u 118, u 119, u 120, u 121, u 122, u 123, u 124, u 125, u 126, u 127, u 128] [some { row := Row.rlst [iv X, iv Y, iv S, iv W, iv H, MV.va 2 0 n 15, MV.va 1 0 nc 1], ty := 90 }, some { row := Row.recs [some IntKind.i64] cs, ty := 2 }, some { row := Row.rrecs [some IntKind.i64, some IntKind.i64, some IntKind.i64, some IntKind.i64, some IntKind.i64, some IntKind.i64, some IntKind.i64, some IntKind.i64, some IntKind.i64, some IntKind.i64, some IntKind.i64, some IntKind.i64, some IntKind.i64, some IntKind.i64, some IntKind.i64] it, ty := 39 }, bx] := by kernel_rfl
set_option maxRecDepth 100000 in
theorem pR14 (u : Nat → MV) (left right top bottom row X Y S W H : Int) (n nc : Nat) (cs it : List (List Int)) (bx : Option Blk) (kk : KE) : xcode Try.prog E A3 1 (cut c56 [1,1,1,1]) (TO u left right top bottom row) (Mp X Y S W H (.va 2 0 n 15) nc cs [some ⟨.rrecs (i64s 15) it, 39⟩, bx]) kk =
  kk XE.ret [MV.ptr 0 0, u 1, u 2, u 3, iv (IntKind.wrap IntKind.i64 (IntKind.wrap IntKind.i64 (right - left) * IntKind.wrap IntKind.i64 (bottom - top))), iv left, iv right, iv top, iv bottom, iv row, u 10, u 11, u 12, u 13, u 14, u 15, u 16, u 17, u 18, u 19, u 20, u 21, u 22, u 23, u 24, u 25, u 26, u 27, u 28, u 29, u 30, u 31, u 32, u 33, u 34, u 35, u 36, u 37, u 38, u 39, u 40, u 41, u 42, u 43, u 44, u 45, u 46, u 47, u 48, u 49, u 50, u 51, u 52, u 53, u 54, u 55, u 56, u 57, u 58, u 59, u 60, u 61, u 62, u 63, u 64, u 65, u 66, u 67, u 68, u 69, u 70, u 71, u 72, u 73, u 74, u 75, u 76, u 77, u 78, u 79, u 80, u 81, u 82, u 83, u 84, u 85, u 86, u 87, u 88, u 89, u 90, u 91, u 92, u 93, u 94, u 95, u 96, u 97, u 98, u 99, u 100, u 101, u 102, u 103, u 104, u 105, u 106, u 107, u 108, u 109, u 110, u 111, u 112, u 113, u 114, u 115, u 116, u 117, u 118, u 119, u 120, u 121, iv right, iv left, iv (IntKind.wrap IntKind.i64 (right - left)), iv bottom, iv top, iv (IntKind.wrap IntKind.i64 (bottom - top)), iv (IntKind.wrap IntKind.i64 (IntKind.wrap IntKind.i64 (right - left) * IntKind.wrap IntKind.i64 (bottom - top)))] [some { row := Row.rlst [iv X, iv Y, iv S, iv W, iv H, MV.va 2 0 n 15, MV.va 1 0 nc 1], ty := 90 }, some { row := Row.recs [some IntKind.i64] cs, ty := 2 }, some { row := Row.rrecs [some IntKind.i64, some IntKind.i64, some IntKind.i64, some IntKind.i64, some IntKind.i64, some IntKind.i64, some IntKind.i64, some IntKind.i64, some IntKind.i64, some IntKind.i64, some IntKind.i64, some IntKind.i64, some IntKind.i64, some IntKind.i64, some IntKind.i64] it, ty := 39 }, bx] := by kernel_rfl
section
variable (x0 y0 x1 y1 X Y S W H : Int) (n nc : Nat) (cs it : List (List Int))
def MpI (cs : List (List Int)) : Mem := Mp X Y S W H (.va 2 0 n 15) nc cs [some ⟨.rrecs (i64s 15) it, 39⟩]
def MpT (cs : List (List Int)) : Mem := Mp X Y S W H (.va 2 0 n 15) nc cs [some ⟨.rrecs (i64s 15) it, 39⟩, some ⟨.lst [iv x0, iv y0, iv x1, iv y1], 37⟩]
theorem c56_eq : c56 = .seq (cut c56 [0]) (.seq (cut c56 [1,0]) (.seq (cut c56 [1,1,0]) (.seq (.seq (cut c56 [1,1,1,0,0]) (.block 0 (cut c56 [1,1,1,0,1,0]))) (cut c56 [1,1,1,1])))) := by kernel_rfl
theorem p0 : ∃ tm', IsTB tm' (.val undef) (.val undef) ∧ ∀ kk : KE, xcode Try.prog E A3 1 (cut c56 [0]) ([.ptr 0 0, .agg [iv x0, iv y0, iv x1, iv y1]] ++ List.replicate 127 (.val undef)) (MpI X Y S W H n nc it cs) kk = kk .normal tm' (MpT x0 y0 x1 y1 X Y S W H n nc it cs) := by
 refine And_swap ?_
 apply Exists.intro
 refine ⟨fun kk => ?_, ?_⟩
 ·unfold MpI
  rw [pR0]
  rfl
 ·exact ⟨rfl, rfl, rfl, rfl, rfl⟩
theorem p1 (u : Nat → MV) (l r : MV) (hS : S ≠ 0) : ∃ tm', IsTB tm' (iv (loI X x0 S W)) (iv (hiI X x0 x1 S W)) ∧ ∀ kk : KE, xcode Try.prog E A3 1 (cut c56 [1,0]) (TB u l r) (MpT x0 y0 x1 y1 X Y S W H n nc it cs) kk = kk .normal tm' (MpT x0 y0 x1 y1 X Y S W H n nc it cs ++ List.replicate 21 none) := by
 have c1 : (!decide (S = 0)) = true := by simp [hS]
 refine And_swap ?_
 apply Exists.intro
 refine ⟨fun kk => ?_, ?_⟩
 ·unfold MpT
  rw [pR1]
  simp only [c1, cond_true, Mp]
  rfl
 ·exact ⟨rfl, rfl, rfl, rfl, rfl⟩
theorem p2 (u : Nat → MV) (left right : Int) (hS : S ≠ 0) : ∃ tm', IsTD tm' left right (loI Y y0 S H) (hiI Y y0 y1 S H) ∧ ∀ kk : KE, xcode Try.prog E A3 1 (cut c56 [1,1,0]) (TB u (iv left) (iv right)) (MpT x0 y0 x1 y1 X Y S W H n nc it cs) kk = kk .normal tm' (MpT x0 y0 x1 y1 X Y S W H n nc it cs ++ List.replicate 21 none) := by
 have c1 : (!decide (S = 0)) = true := by simp [hS]
 refine And_swap ?_
 apply Exists.intro
 refine ⟨fun kk => ?_, ?_⟩
 ·unfold MpT
  rw [pR2]
  simp only [c1, cond_true, Mp]
  rfl
 ·exact ⟨rfl, rfl, rfl, rfl, rfl, rfl⟩
theorem p3 (u : Nat → MV) (left right top bottom : Int) : ∃ tm', IsTO tm' left right top bottom top ∧ ∀ kk : KE, xcode Try.prog E A3 1 (cut c56 [1,1,1,0,0]) (TD u left right top bottom) (MpT x0 y0 x1 y1 X Y S W H n nc it cs) kk = kk .normal tm' (MpT x0 y0 x1 y1 X Y S W H n nc it cs) := by
 refine And_swap ?_
 apply Exists.intro
 refine ⟨fun kk => ?_, ?_⟩
 ·unfold MpT
  rw [pR3]
  rfl
 ·exact ⟨rfl, rfl, rfl, rfl, rfl, rfl, rfl⟩
theorem p14 (u : Nat → MV) (left right top bottom row : Int) : ∃ tm', (∀ m : Mem, xres Try.prog tm' m Try.f56.results.toList = some [iv (w6 (w6 (right - left) * w6 (bottom - top)))]) ∧ ∀ kk : KE, xcode Try.prog E A3 1 (cut c56 [1,1,1,1]) (TO u left right top bottom row) (MpT x0 y0 x1 y1 X Y S W H n nc it cs) kk = kk .ret tm' (MpT x0 y0 x1 y1 X Y S W H n nc it cs) := by
 refine And_swap ?_
 apply Exists.intro
 refine ⟨fun kk => ?_, ?_⟩
 ·unfold MpT
  rw [pR14]
  rfl
 ·intro m; rfl
theorem paint_x (hn : it.length = n) (h1 : it.length ≤ 1000) (hS : S ≠ 0) (hW : 0 ≤ W) (hWn : H * W ≤ nc) (hH : H ≤ 1000000) (hnc : nc ≤ 1000000) (hcs : cs.length = nc)
  (ha : 0 ≤ loI X x0 S W) (hb : 0 ≤ loI Y y0 S H) :
  XF Try.prog A3.env 56 [.ptr 0 0, .agg [iv x0, iv y0, iv x1, iv y1]] (MpI X Y S W H n nc it cs) (fun v m' =>
   v = iv (w6 (w6 (hiI X x0 x1 S W - loI X x0 S W) * w6 (hiI Y y0 y1 S H - loI Y y0 S H))) ∧
   m' = MpI X Y S W H n nc it (gridP it X Y S W (loI X x0 S W) (hiI X x0 x1 S W) (hiI Y y0 y1 S H - loI Y y0 S H).toNat (loI Y y0 S H) cs)) := by
 have hlr : loI X x0 S W ≤ hiI X x0 x1 S W := by unfold hiI maxI; unfold loI; split <;> omega
 have htb : loI Y y0 S H ≤ hiI Y y0 y1 S H := by unfold hiI maxI; unfold loI; split <;> omega
 have hrW : hiI X x0 x1 S W ≤ W := by unfold hiI maxI minI; split <;> split <;> omega
 have hbH : hiI Y y0 y1 S H ≤ H := by unfold hiI maxI minI; split <;> split <;> omega
 obtain ⟨left, hleft⟩ : ∃ x, x = loI X x0 S W := ⟨_, rfl⟩
 obtain ⟨right, hright⟩ : ∃ x, x = hiI X x0 x1 S W := ⟨_, rfl⟩
 obtain ⟨top, htop⟩ : ∃ x, x = loI Y y0 S H := ⟨_, rfl⟩
 obtain ⟨bottom, hbottom⟩ : ∃ x, x = hiI Y y0 y1 S H := ⟨_, rfl⟩
 refine XF.forget (XF.of_code Try.func56 (c := c56) (by kernel_rfl) ?_)
 refine XR.cast c56_eq ?_
 obtain ⟨tm0, a1, a2⟩ := p0 x0 y0 x1 y1 X Y S W H n nc cs it
 refine XR.seq_x E_ok A3_ok mixed a2 ?_
 obtain ⟨u0, rfl⟩ := a1.eq
 obtain ⟨tm1, b1, b2⟩ := p1 x0 y0 x1 y1 X Y S W H n nc cs it u0 (.val undef) (.val undef) hS
 refine XR.seq_x E_ok A3_ok mixed b2 ?_
 refine XR.trim ?_
 rw [← hleft, ← hright] at b1 ⊢
 obtain ⟨u1, rfl⟩ := b1.eq
 obtain ⟨tm2, d1, d2⟩ := p2 x0 y0 x1 y1 X Y S W H n nc cs it u1 left right hS
 refine XR.seq_x E_ok A3_ok mixed d2 ?_
 refine XR.trim ?_
 rw [← htop, ← hbottom] at d1 ⊢
 rw [← hleft] at ha hlr
 rw [← hright] at hlr hrW
 rw [← htop] at hb htb
 rw [← hbottom] at htb hbH
 obtain ⟨u2, rfl⟩ := d1.eq
 refine XR.seq ?_
 obtain ⟨tm3, f1, f2⟩ := p3 x0 y0 x1 y1 X Y S W H n nc cs it u2 left right top bottom
 refine XR.seq_x E_ok A3_ok mixed f2 ?_
 refine XR.block ?_
 have hbW : bottom * W ≤ nc := by
  have := Int.mul_le_mul_of_nonneg_right hbH hW
  omega
 have hl := out_loop it (some ⟨.lst [iv x0, iv y0, iv x1, iv y1], 37⟩) left right top bottom X Y S W H n nc (cs := cs) (q := 0) hn h1 hW ha hlr hrW hbW hnc (by omega) f1 hb htb hcs
 simp only [List.replicate_zero, List.append_nil] at hl
 refine XR.mono hl ?_
 rintro e tm4 m4 ⟨rfl, g1, q, rfl⟩
 simp only [if_true]
 refine XR.trim ?_
 obtain ⟨u4, rfl⟩ := g1.eq
 obtain ⟨tm5, k1, k2⟩ := p14 x0 y0 x1 y1 X Y S W H n nc (gridP it X Y S W left right (bottom - top).toNat top cs) it u4 left right top bottom bottom
 refine XR.of_x E_ok A3_ok mixed k2 ?_
 refine ⟨[iv (w6 (w6 (right - left) * w6 (bottom - top)))], ?_, MpI X Y S W H n nc it (gridP it X Y S W left right (bottom - top).toNat top cs), [some ⟨.lst [iv x0, iv y0, iv x1, iv y1], 37⟩], rfl, Nat.le_refl _, rfl, ?_, rfl, rfl⟩
 ·exact k1 _
 ·intro b k hk
  match b, hk with
  | 0, hk =>
   have e : k = ⟨.rlst [iv X, iv Y, iv S, iv W, iv H, .va 2 0 n 15, .va 1 0 nc 1], 90⟩ := by injection hk with hk; injection hk with hk; exact hk.symm
   subst e
   show (true && _) = true
   simp [inbL, inb, MpI, Mp, Blk.cells]
  | 1, hk =>
   have e : k = ⟨.recs (i64s 1) (gridP it X Y S W left right (bottom - top).toNat top cs), 2⟩ := by injection hk with hk; injection hk with hk; exact hk.symm
   subst e
   exact inb_recs _ _ _
  | 2, hk =>
   have e : k = ⟨.rrecs (i64s 15) it, 39⟩ := by injection hk with hk; injection hk with hk; exact hk.symm
   subst e
   exact inb_recs _ _ _
  | b + 3, hk => simp [MpI, Mp] at hk
end
end Go.Proofs.Ytppklhfiajjhmaa.Ti
end
section
namespace Go.Proofs.Ytppklhfiajjhmaa.Ti
open Go Go.RowKit Go.Proofs.Ytppklhfiajjhmaa.Y
set_option linter.unusedVariables false
set_option linter.unusedSimpArgs false
def paintOk (X Y S W H : Int) (n nc : Nat) (cs it : List (List Int)) (x0 y0 x1 y1 : Int) : Bool :=
 decide (it.length = n ∧ it.length ≤ 1000 ∧ S ≠ 0 ∧ 0 ≤ W ∧ H * W ≤ nc ∧ H ≤ 1000000 ∧ nc ≤ 1000000 ∧ cs.length = nc ∧ 0 < nc ∧ 0 ≤ loI X x0 S W ∧ 0 ≤ loI Y y0 S H)
def paintC (X Y S W H : Int) (it : List (List Int)) (x0 y0 x1 y1 : Int) (cs : List (List Int)) : List (List Int) :=
 gridP it X Y S W (loI X x0 S W) (hiI X x0 x1 S W) (hiI Y y0 y1 S H - loI Y y0 S H).toNat (loI Y y0 S H) cs
def paintN (X Y S W H : Int) (x0 y0 x1 y1 : Int) : Int := w6 (w6 (hiI X x0 x1 S W - loI X x0 S W) * w6 (hiI Y y0 y1 S H - loI Y y0 S H))
theorem paintC_len (X Y S W H : Int) (it : List (List Int)) (x0 y0 x1 y1 : Int) (cs : List (List Int)) : (paintC X Y S W H it x0 y0 x1 y1 cs).length = cs.length := gridP_len _ _ _ _ _ _ _ _ _ _
def paintG : List MV → Mem → KM → Option Out := fun args m k => match args with
 | [.ptr b 0, .agg [.val (.int .i64 x0), .val (.int .i64 y0), .val (.int .i64 x1), .val (.int .i64 y1)]] => match m[b]? with
  | some (some ⟨.lst [.val (.int .i64 X), .val (.int .i64 Y), .val (.int .i64 S), .val (.int .i64 W), .val (.int .i64 H), .va d 0 n 15, .va c 0 nc 1], 90⟩) => match m[d]? with
   | some (some ⟨.recs sh it, 39⟩) => match m[c]? with
    | some (some ⟨.recs sh1 cs, 2⟩) => bif decide (sh = i64s 15) && decide (sh1 = i64s 1) && decide (b ≠ c) && decide (b ≠ d) && decide (c ≠ d) then
      bif paintOk X Y S W H n nc cs it x0 y0 x1 y1 then k (iv (paintN X Y S W H x0 y0 x1 y1)) (m.set c (some ⟨.recs (i64s 1) (paintC X Y S W H it x0 y0 x1 y1 cs), 2⟩)) else none
     else none
    | _ => none
   | _ => none
  | _ => none
 | _ => none
theorem wk_recs (sh : List (Option IntKind)) (l : List (List Int)) : (l.flatMap (recC sh 0)).map wk = l.flatMap (recC sh 0) := by
 have h1 : ∀ (sh : List (Option IntKind)) (c : Nat) (r : List Int), (recC sh c r).map wk = recC sh c r := by
  intro sh
  induction sh with
  | nil => intro c r; rfl
  | cons a sh ih => intro c r; cases a <;> simp [recC, ih, wk]
 induction l with
 | nil => rfl
 | cons r l ih => simp only [List.flatMap_cons, List.map_append, h1, ih]
theorem recs_len (sh : List (Option IntKind)) (l : List (List Int)) : (l.flatMap (recC sh 0)).length = l.length * sh.length := by
 induction l with
 | nil => simp
 | cons r l ih => simp [List.flatMap_cons, recC_len, ih, Nat.add_mul]; omega
theorem paintG_ok : IOk Try.prog A3.env 56 paintG := by
 intro args m k r hG base w0 σ us w hX hu hM
 unfold paintG at hG
 split at hG
 case h_2 => cases hG
 rename_i b x0 y0 x1 y1
 split at hG
 case h_2 => cases hG
 rename_i X Y S W H d n c nc hb
 split at hG
 case h_2 => cases hG
 rename_i sh it hd
 split at hG
 case h_2 => cases hG
 rename_i sh1 cs hc
 cases h1 : (decide (sh = i64s 15) && decide (sh1 = i64s 1) && decide (b ≠ c) && decide (b ≠ d) && decide (c ≠ d)) with
 | false => rw [h1] at hG; cases hG
 | true =>
 rw [h1] at hG
 cases h2 : paintOk X Y S W H n nc cs it x0 y0 x1 y1 with
 | false => rw [h2] at hG; cases hG
 | true =>
 rw [h2] at hG
 simp only [cond_true] at hG
 simp only [Bool.and_eq_true, decide_eq_true_eq] at h1
 obtain ⟨⟨⟨⟨rfl, rfl⟩, hbc⟩, hbd⟩, hcd⟩ := h1
 unfold paintOk at h2
 simp only [decide_eq_true_eq] at h2
 obtain ⟨q1, q2, q3, q4, q5, q6, q7, q8, q9, q10, q11⟩ := h2
 have hx := paint_x x0 y0 x1 y1 X Y S W H n nc cs it q1 q2 q3 q4 q5 q6 q7 q8 q10 q11
 have hl := paintC_len X Y S W H it x0 y0 x1 y1 cs
 have hu' := hu
 simp only [RVs] at hu'
 obtain ⟨u0, r0, rfl, hp, u1, r1, rfl, hr, rfl⟩ := hu'
 obtain ⟨g, hg, rfl⟩ := hp.ptr_inv
 obtain ⟨pre, cells, rest, b1, b2, b3, b4, b5⟩ := hM.blk b _ g hb hg
 have hcells : ∀ (i : Nat) x, [MV.val (.int .i64 X), .val (.int .i64 Y), .val (.int .i64 S), .val (.int .i64 W), .val (.int .i64 H), .va d 0 n 15, .va c 0 nc 1][i]? = some x → ∃ u, RV σ x u := by
  intro i x hi
  obtain ⟨u, _, hu⟩ := RVs.get i b2 hi
  exact ⟨u, hu⟩
 have hdm : 0 < n → ∃ g, σ d = some g := by
  intro hn
  obtain ⟨u, h⟩ := hcells 5 _ rfl
  simp only [RV] at h
  obtain ⟨A, cc, _, _, h3⟩ := h
  obtain ⟨g, h4, _⟩ := h3 hn
  exact ⟨g, h4⟩
 have hcm : ∃ g, σ c = some g := by
  obtain ⟨u, h⟩ := hcells 6 _ rfl
  simp only [RV] at h
  obtain ⟨A, cc, _, _, h3⟩ := h
  obtain ⟨g, h4, _⟩ := h3 q9
  exact ⟨g, h4⟩
 have hz : XFz Try.prog A3.env (fun i => i == 2 && n == 0) 56 [.ptr 0 0, .agg [iv x0, iv y0, iv x1, iv y1]] (MpI X Y S W H n nc it cs) (iv (paintN X Y S W H x0 y0 x1 y1)) (MpI X Y S W H n nc it (paintC X Y S W H it x0 y0 x1 y1 cs)) := by
  refine XF.z hx rfl ?_
  intro i k hk
  match i, hk with
  | 0, hk =>
   have e : k = ⟨.rlst [iv X, iv Y, iv S, iv W, iv H, .va 2 0 n 15, .va 1 0 nc 1], 90⟩ := by injection hk with hk; injection hk with hk; exact hk.symm
   subst e
   show (true && _) = true
   simp [inbL, inb]
  | 1, hk =>
   have e : k = ⟨.recs (i64s 1) (paintC X Y S W H it x0 y0 x1 y1 cs), 2⟩ := by injection hk with hk; injection hk with hk; exact hk.symm
   subst e
   exact inb_recs _ _ _
  | 2, hk =>
   have e : k = ⟨.rrecs (i64s 15) it, 39⟩ := by injection hk with hk; injection hk with hk; exact hk.symm
   subst e
   exact inb_recs _ _ _
  | i + 3, hk => simp [MpI, Mp] at hk
 have hfr := frameZ (rs := [b, c, d]) true_stable hz (base := base) (w0 := w0) (σ := σ) (w := w) (m := m) (args := [.ptr b 0, .agg [iv x0, iv y0, iv x1, iv y1]]) (by simp [hbc, hbd, hcd]) ?_ (fun h => h) ?_ ?_ ?_ hX hu hM ?_
 ·refine Calls.mono hfr ?_
  rintro e w' ⟨v, m', σ', u, ⟨rfl, rfl⟩, h3, h4, h5, h6⟩
  refine ⟨_, _, σ', u, ?_, h3, h4, h5, h6⟩
  rw [← hG]
  simp only [frameM, MpI, Mp, upd, Blk.ro, cond_true, cond_false, List.cons_append, List.nil_append, List.length_cons, List.length_nil, List.drop_succ_cons, List.drop_zero, List.map_nil, List.append_nil, renB, ren, iv, List.drop]
 ·intro i k0 hk
  match i, hk with
  | 0, _ => simp
  | 1, _ => simp
  | 2, _ => simp
  | i + 3, hk => simp [MpI, Mp] at hk
 ·intro i b' hb'
  match i, hb' with
  | 0, hb' =>
   simp only [List.getElem?_cons_zero, Option.some.injEq] at hb'
   subst hb'
   exact ⟨_, _, hb, rfl, rfl, rfl, fun h => by cases h⟩
  | 1, hb' =>
   have e : c = b' := by simpa using hb'
   subst e
   refine ⟨_, _, hc, rfl, rfl, ?_, fun _ => ⟨rfl, ?_⟩⟩
   ·show (cs.flatMap (recC (i64s 1) 0)).map wk = renL _ (cs.flatMap (recC (i64s 1) 0))
    rw [wk_recs, renL_recs]
   ·show cs.flatMap (recC (i64s 1) 0) ≠ []
    intro e
    have := recs_len (i64s 1) cs
    rw [e] at this
    simp [i64s] at this
    omega
  | 2, hb' =>
   have e : d = b' := by simpa using hb'
   subst e
   refine ⟨_, _, hd, rfl, rfl, ?_, fun h => by cases h⟩
   show (it.flatMap (recC (i64s 15) 0)).map wk = renL _ (it.flatMap (recC (i64s 15) 0))
   rw [wk_recs, renL_recs]
  | i + 3, hb' => simp at hb'
 ·intro i k0 hk
  match i, hk with
  | 0, hk => exact ⟨k0, hk, rfl, rfl, rfl⟩
  | 1, hk =>
   have e : k0 = ⟨.recs (i64s 1) cs, 2⟩ := by injection hk with hk; injection hk with hk; exact hk.symm
   subst e
   refine ⟨_, rfl, rfl, rfl, ?_⟩
   show ((paintC X Y S W H it x0 y0 x1 y1 cs).flatMap (recC (i64s 1) 0)).length = (cs.flatMap (recC (i64s 1) 0)).length
   rw [recs_len, recs_len, hl]
  | 2, hk => exact ⟨k0, hk, rfl, rfl, rfl⟩
  | i + 3, hk => simp [MpI, Mp] at hk
 ·intro i k1 hi hk
  match i, hi, hk with
  | i + 3, _, hk => simp [MpI, Mp] at hk
 ·intro i b' hb'
  match i, hb' with
  | 0, hb' =>
   have e : b = b' := by simpa using hb'
   subst e
   exact .inr ⟨g, hg⟩
  | 1, hb' =>
   have e : c = b' := by simpa using hb'
   subst e
   exact .inr hcm
  | 2, hb' =>
   have e : d = b' := by simpa using hb'
   subst e
   rcases Nat.eq_zero_or_pos n with h | h
   ·exact .inl (by rw [h]; rfl)
   ·exact .inr (hdm h)
  | i + 3, hb' => simp at hb'
end Go.Proofs.Ytppklhfiajjhmaa.Ti
end
section
namespace Go.Proofs.Ytppklhfiajjhmaa.Ti
open Go Go.RowKit Go.Proofs.Ytppklhfiajjhmaa.Y Go.Proofs.Ytppklhfiajjhmaa.PPT Go.Lib
set_option linter.unusedVariables false
set_option linter.unusedSimpArgs false
set_option maxRecDepth 100000 in
theorem allNf (X Y S W H : Int) (c0 : KM) : xfun Try.prog E A3 3 54 [.ptr 0 0] [some ⟨.rlst [iv X, iv Y, iv S, iv W, iv H, .any, .any], 90⟩] c0 =
  c0 (MV.agg [iv X, iv Y, iv (IntKind.wrap IntKind.i64 (X + IntKind.wrap IntKind.i64 (W * S))), iv (IntKind.wrap IntKind.i64 (Y + IntKind.wrap IntKind.i64 (H * S)))]) [some { row := Row.rlst [iv X, iv Y, iv S, iv W, iv H, MV.any, MV.any], ty := 90 }, some { row := Row.lst [iv X, iv Y, iv (IntKind.wrap IntKind.i64 (X + IntKind.wrap IntKind.i64 (W * S))), iv (IntKind.wrap IntKind.i64 (Y + IntKind.wrap IntKind.i64 (H * S)))], ty := 37 }, none, none, none, none, none, none, none, none, none, none, none, none, none, none, none, none, none, none, none, none, none, none, none, none, none, none, none, none, none, none, none, none, none, none, none, none, none, none, none, none, none, none, none, none, none, none] := by kernel_rfl
def allF : List MV → Nat → Nat → List MV → Option MV := fun cells ty o ps => match cells, ty, o, ps with
 | [.val (.int .i64 X), .val (.int .i64 Y), .val (.int .i64 S), .val (.int .i64 W), .val (.int .i64 H), .any, .any], 90, 0, [] =>
  some (.agg [iv X, iv Y, iv (w6 (X + w6 (W * S))), iv (w6 (Y + w6 (H * S)))])
 | _, _, _, _ => none
theorem allF_ok : QOk Try.prog A3.env 54 (toR1 allF) := by
 refine Q_one true_stable (fun cells ty o ps v h => ?_)
 unfold allF at h
 split at h
 ·rename_i X Y S W H
  simp only [Option.some.injEq] at h
  subst h
  refine ⟨⟨_, rfl⟩, ⟨_, rfl⟩, ?_⟩
  apply XF.of_x E_ok A3_ok mixed (n := 3)
  ·intro k
   rw [allNf]
  ·rfl
 ·cases h
def allG : List MV → (Nat → Option Blk) → KV → Option Out := fun args rd k => match args with
 | [.ptr b 0] => match rd b with
  | some kb => match kb.cells, kb.ty with
   | [.val (.int .i64 X), .val (.int .i64 Y), .val (.int .i64 S), .val (.int .i64 W), .val (.int .i64 H), .va b1 i1 n1 s1, .va b2 i2 n2 s2], 90 =>
    k (.agg [iv X, iv Y, iv (w6 (X + w6 (W * S))), iv (w6 (Y + w6 (H * S)))])
   | _, _ => none
  | none => none
 | _ => none
theorem allG_ok : QOk Try.prog A3.env 54 allG := by
 intro args rd k r hG
 refine allF_ok args rd k r ?_
 unfold allG at hG
 split at hG
 ·rename_i b
  split at hG
  ·rename_i kb hb
   split at hG
   ·rename_i X Y S W H b1 i1 n1 s1 b2 i2 n2 s2 hc ht
    simp only [toR1, hb, hc, ht, allF, List.map_cons, List.map_nil, hide]
    exact hG
   ·cases hG
  ·cases hG
 ·cases hG
def rI (l : List Int) : S37 := ⟨l.getD 0 0, l.getD 1 0, l.getD 2 0, l.getD 3 0⟩
def meetL (a0 a1 a2 a3 b0 b1 b2 b3 : Int) : S37 := Pure.meet ⟨a0, a1, a2, a3⟩ ⟨b0, b1, b2, b3⟩
def meetP : List MV → Option MV
 | [.agg [.val (.int .i64 a0), .val (.int .i64 a1), .val (.int .i64 a2), .val (.int .i64 a3)], .agg [.val (.int .i64 b0), .val (.int .i64 b1), .val (.int .i64 b2), .val (.int .i64 b3)]] =>
  some (.agg [iv (meetL a0 a1 a2 a3 b0 b1 b2 b3).f0, iv (meetL a0 a1 a2 a3 b0 b1 b2 b3).f1, iv (meetL a0 a1 a2 a3 b0 b1 b2 b3).f2, iv (meetL a0 a1 a2 a3 b0 b1 b2 b3).f3])
 | _ => none
theorem meetP_ok {X : Env} : QOk Try.prog X 53 (toQ meetP) := by
 refine Q_of (fun args v h => ?_)
 unfold meetP at h
 split at h
 ·rename_i a0 a1 a2 a3 b0 b1 b2 b3
  injection h with h; subst h
  exact ⟨_, _, rfl, rfl, fun w => rect_Meet.calls _ _ _ _ _ _ _ _ _ _ _ _ w (Pure.meet_eq ⟨a0, a1, a2, a3⟩ ⟨b0, b1, b2, b3⟩)⟩
 ·cases h
def empL (a0 a1 a2 a3 : Int) : Bool := decide (Pure.emp ⟨a0, a1, a2, a3⟩)
def emptyP : List MV → Option MV
 | [.agg [.val (.int .i64 a0), .val (.int .i64 a1), .val (.int .i64 a2), .val (.int .i64 a3)]] => some (.val (.bool (empL a0 a1 a2 a3)))
 | _ => none
theorem emptyP_ok {X : Env} : QOk Try.prog X 55 (toQ emptyP) := by
 refine Q_of (fun args v h => ?_)
 unfold emptyP at h
 split at h
 ·rename_i a0 a1 a2 a3
  injection h with h; subst h
  exact ⟨_, _, rfl, rfl, fun w => rect_Empty.calls _ _ _ _ _ w (Pure.empty_eq ⟨a0, a1, a2, a3⟩)⟩
 ·cases h
def harmL (l m : List (List Int)) : List (List Int) := (Pure.harm (l.map dec39) (m.map dec39)).map enc37
def harmP : List MV → (Nat → Option Blk) → (Blk → (Nat → MV) → Option Out) → Option Out := fun args rd k => match args with
 | [a, b] => match rowsC T0 (i64s 15) rd a with
  | (c, some l) => match rowsC T0 (i64s 15) rd b with
   | (d, some m) => bif c then bif d then bif decide (l.length + m.length ≤ 90) then k ⟨.recs (i64s 4) (harmL l m), 37⟩ (fun b => .va b 0 (harmL l m).length 4) else none else none else none
   | (_, none) => none
  | (_, none) => none
 | _ => none
theorem harmP_ok {X : Env} : NOk Try.prog X 18 harmP := by
 intro args rd k r hG
 unfold harmP at hG
 split at hG
 case h_2 => cases hG
 rename_i a b
 split at hG
 case h_2 => cases hG
 rename_i c l hl0
 split at hG
 case h_2 => cases hG
 rename_i d m hm0
 cases c with
 | false => simp at hG
 | true =>
 cases d with
 | false => simp at hG
 | true =>
 simp only [cond_true] at hG
 cases hd : decide (l.length + m.length ≤ 90) with
 | false => rw [hd] at hG; simp at hG
 | true =>
 rw [hd] at hG
 simp only [cond_true] at hG
 simp only [decide_eq_true_eq] at hd
 have hl := rowsC_ok hl0
 have hm := rowsC_ok hm0
 refine ⟨_, _, hG, rfl, fun base w0 σ us w hX hb hn hu hr => ?_⟩
 simp only [RVs] at hu
 obtain ⟨u0, r0, rfl, h0, u1, r1, rfl, h1, rfl⟩ := hu
 obtain ⟨A, cc, rfl, hc, hC⟩ := items_C (rowsOf_ok hl (T0_out _ base w0 σ.x) hb h0 (fun b k hb' hk => hr b k (reach_l (by simp [refsL, hb'])) hk)) (by omega)
 obtain ⟨A1, c1, rfl, hc1, hC1⟩ := items_C (rowsOf_ok hm (T0_out _ base w0 σ.x) hb h1 (fun b k hb' hk => hr b k (reach_l (by simp [refsL, hb'])) hk)) (by omega)
 obtain ⟨K, hK⟩ := Pure.harm_eq (l.map dec39) (m.map dec39) (by rw [List.length_map, List.length_map]; omega)
 refine Calls.mono (harm_Of.calls K A cc (l.map dec39) A1 c1 (m.map dec39) _ w hC hc hC1 hc1 (hK K (Nat.le_refl K))) ?_
 rintro e w' ⟨v, rfl, hR, hB⟩
 have e : (harmL l m).length = (Pure.harm (l.map dec39) (m.map dec39)).length := by simp [harmL]
 have ho := rects_own (w := w) hR
 rw [← e] at ho
 exact ⟨_, rfl, fresh_own ho rfl rfl, hB⟩
def cloneR (ty sz : Nat) : List MV → (Nat → Option Blk) → (Blk → (Nat → MV) → Option Out) → Option Out := fun args rd k => match args with
 | [a] => match rowsC T0 (i64s sz) rd a with
  | (c, some l) => bif c then bif decide (l.length ≤ 1000000) then k ⟨.recs (i64s sz) l, ty⟩ (fun b => .va b 0 l.length sz) else none else none
  | (_, none) => none
 | _ => none
theorem cloneR_ok {X : Env} {f ty sz : Nat} (hsz : 0 < sz)
  (h1 : ∀ (b off n c : Nat) (news : List Value) (w : World), news.length = n * sz → n ≤ 1000000 → (∀ j u, news[j]? = some u → w.cell? ⟨b, off + j, none⟩ = some u) → (∀ u ∈ news, u.oneCell' = true) →
   Calls Try.prog f #[.slice (some ⟨b, off, none⟩) n c] w fun e w' => ∃ v', e = .returned v' ∧ w'.ownsRow w.heap.size ty sz v' n news ∧ Below w.heap.size w w')
  (h0 : ∀ (a : Addr) (c : Nat) (w : World), Calls Try.prog f #[.slice (some a) 0 c] w fun e w' => ∃ v', e = .returned v' ∧ w'.ownsRow w.heap.size ty sz v' 0 [] ∧ Below w.heap.size w w')
  (hnil : ∀ (n c : Nat) (w : World), Calls Try.prog f #[.slice none n c] w fun e w' => e = .returned (.slice none 0 0) ∧ w' = w) : NOk Try.prog X f (cloneR ty sz) := by
 intro args rd k r hG
 unfold cloneR at hG
 split at hG
 case h_2 => cases hG
 rename_i a
 split at hG
 case h_2 => cases hG
 rename_i c l hl0
 cases c with
 | false => simp at hG
 | true =>
 simp only [cond_true] at hG
 cases hd : decide (l.length ≤ 1000000) with
 | false => rw [hd] at hG; simp at hG
 | true =>
 rw [hd] at hG
 simp only [cond_true] at hG
 simp only [decide_eq_true_eq] at hd
 have hl := rowsC_ok hl0
 refine ⟨_, _, hG, rfl, fun base w0 σ us w hX hb hn hu hr => ?_⟩
 simp only [RVs] at hu
 obtain ⟨u0, r0, rfl, hh, rfl⟩ := hu
 obtain ⟨A, cc, rfl, hc, hC⟩ := rowsOf_ok hl (T0_out _ base w0 σ.x) hb hh (fun b k hb' hk => hr b k (reach_l (by simp [refsL, hb'])) hk)
 have hlen := rowsV_len (i64s sz) l
 have hs : (i64s sz).length = sz := by simp [i64s]
 rw [hs] at hlen
 rcases Nat.eq_zero_or_pos l.length with hz | hz
 ·have hl' : l = [] := List.length_eq_zero_iff.1 hz
  subst hl'
  cases A with
  | none =>
   refine Calls.mono (hnil 0 cc w) ?_
   rintro e w' ⟨rfl, rfl⟩
   refine ⟨_, rfl, .inr (fun τ b hx => ?_), Below.refl _ _⟩
   simp only [RV]
   exact ⟨none, 0, rfl, Nat.le_refl _, fun h => absurd h (by simp)⟩
  | some a =>
   refine Calls.mono (h0 a cc w) ?_
   rintro e w' ⟨v, rfl, ho, hB⟩
   exact ⟨v, rfl, fresh_own ho rfl hs.symm, hB⟩
 ·obtain ⟨ad, rfl, ⟨_, hsp⟩, hcell⟩ := hC hz
  obtain ⟨b, off, spot⟩ := ad
  simp only at hsp
  subst hsp
  refine Calls.mono (h1 b off l.length cc (rowsV (i64s sz) l) w hlen hd ?_ (rowsV_one _ _)) ?_
  ·intro j u hj
   have hlt := (List.getElem?_eq_some_iff.1 hj).1
   rw [hlen] at hlt
   have hq : j / sz < l.length := (Nat.div_lt_iff_lt_mul hsz).2 hlt
   have hrl : j % sz < (recV (i64s sz) 0 (l.getD (j / sz) [])).length := by rw [recV_len, hs]; exact Nat.mod_lt _ hsz
   have h1 := hcell (j / sz) hq (j % sz) _ (List.getElem?_eq_getElem hrl)
   have h2 := rowsV_get hq (List.getElem?_eq_getElem hrl)
   rw [hs] at h1 h2
   have ej : j / sz * sz + j % sz = j := Nat.div_add_mod' j sz
   rw [ej] at h1 h2
   rw [addr_add] at h1
   rw [hj] at h2
   simp only [Option.some.injEq] at h2
   rw [h1, h2]
  ·rintro e w' ⟨v, rfl, ho, hB⟩
   exact ⟨v, rfl, fresh_own ho rfl hs.symm, hB⟩
end Go.Proofs.Ytppklhfiajjhmaa.Ti
end
section
namespace Go.Proofs.Ytppklhfiajjhmaa.Ti
open Go Go.RowKit Go.Proofs.Ytppklhfiajjhmaa.Y Go.Proofs.Ytppklhfiajjhmaa.PPT Go.Lib Go.Shelf
set_option linter.unusedVariables false
set_option linter.unusedSimpArgs false
set_option maxHeartbeats 2000000 in
set_option maxRecDepth 100000 in
theorem clone_zero {P : Program} {ρ : Ren} (L : SlLaysE0.n41 P ρ) (i0 : TypeInfo) (z : Value) (size bytes : Nat) (hi : P.info? (ρ.t 23) = some i0) (hz0 : i0.zero = some z) (hz1 : i0.size = size) (hz2 : i0.bytes = bytes) (hzs : z.cells.size = size) (hsz : 0 < size)
  (z23 : ∀ w, (Go.sizeOf (ρ.t 23)).run P w = .ok size w) (a : Addr) (c : Nat) (w : World) :
  Calls P (ρ.f 41) #[.slice (some a) 0 c] w fun e w' => ∃ v', e = .returned v' ∧ w'.ownsRow w.heap.size (ρ.t 23) size v' 0 [] ∧ Below w.heap.size w w' := by
 have mixed := L.mixed; have t4 := L.t4; have a4 := L.a4; have z4 := L.z4; have v4 := L.v4; have t22 := L.t22; have a22 := L.a22; have z22 := L.z22; have v22 := L.v22
 have q22 : ∀ (w : World) (a : Option Addr) (n c n' c' : Nat), (binOp .eql (ρ.t 22) (.slice a n c) (.slice none n' c')).run P w = .ok (.bool a.isNone) w := fun w a n c n' c' => Lib.run_eql_slice_nil w _ _ a n c n' c' L.t22
 have u22 : ∀ w, Sem.run P (underlying (ρ.t 22)) w = .ok (TypeDesc.slice (ρ.t 23)) w := run_underlying t22
 obtain ⟨_, _, FG⟩ := L.f41
 go_enter FG, SlBodyN.n41_ntmps ρ
 go_wp2_with (at_builtin; refine wpList_append_own _ rfl _ _ (ρ.t 22) rfl w.heap.size (ρ.t 23) i0 z size bytes t22 hi hz0 hz1 hz2 hzs hsz _ _ _ rfl (World.ownsRow_made w #[] 0 (Nat.le_refl _) (Nat.zero_le _) (by simp)) a 0 c [] rfl (by simp) (by intro j u hj; simp at hj) (by intro u hu; cases hu) (by unfold maxLen; omega) (by omega) (by simp) ?_)
 intro v' w1 hown hgrow hnil
 go_wp2
 go_ret
 exact ⟨v', rfl, by simpa using hown, ((Below.refl _ w).alloc (Nat.le_refl _) _).grown hgrow (by simp) (by intro k hk; simp [Value.ownBlock] at hk; omega)⟩
theorem lays57 : Go.Proofs.SlLaysE0.n41 Try.prog ⟨fun | 41 => 57 | n => n, fun | 22 => 47 | 23 => 2 | 4 => 4 | n => n, fun | n => n⟩ := {
 mixed := by kernel_rfl
 f41 := ⟨Try.f57.name, by decide, Try.func57.trans (congrArg some (by kernel_rfl))⟩
 t4 := Try.underlying4
 a4 := Try.isAgg4
 z4 := Try.sizeOf4
 v4 := Try.zeroValue4
 t22 := Try.underlying47
 a22 := Try.isAgg47
 z22 := Try.sizeOf47
 v22 := Try.zeroValue47 }
theorem info2 : ∃ i z, Try.prog.info? 2 = some i ∧ i.zero = some z ∧ i.size = 1 ∧ i.bytes = 8 ∧ z.cells.size = 1 := by
 have h1 : (Try.prog.info? 2).map (fun i => (i.size, i.bytes)) = some (1, 8) := by kernel_rfl
 have h2 : zeroCells Try.prog 2 = some (List.replicate 1 (.int .i64 0)) := by kernel_rfl
 obtain ⟨i, hi, he⟩ := Option.map_eq_some_iff.1 h1
 simp only [Prod.mk.injEq] at he
 unfold zeroCells at h2
 rw [hi] at h2
 simp only [Option.bind_some] at h2
 obtain ⟨z, hz, hz2⟩ := Option.map_eq_some_iff.1 h2
 refine ⟨i, z, hi, hz, he.1, he.2, ?_⟩
 have := congrArg List.length hz2
 simpa using this
theorem clone52_ok {X : Env} : NOk Try.prog X 52 (cloneR 39 15) := by
 obtain ⟨i, z, hi, hz, hs, hby, hzs⟩ := info39
 refine cloneR_ok (by omega) (fun b off n c news w hl hn hc h1 => ?_) (fun a c w => ?_) (fun n c w => AnyE.slices_Clone_nil lays52 n c w)
 ·refine Calls.mono (AnyE.slices_Clone lays52 i z 15 120 hi hz hs hby hzs (by omega) (fun w => run_size (by kernel_rfl) w) b off n c news w hl (by simp [maxLen]; omega) (by omega) hc h1) ?_
  rintro e w' ⟨v, rfl, ho, _, hB⟩
  exact ⟨v, rfl, ho, hB⟩
 ·exact clone_zero lays52 i z 15 120 hi hz hs hby hzs (by omega) (fun w => run_size (by kernel_rfl) w) a c w
theorem clone57_ok {X : Env} : NOk Try.prog X 57 (cloneR 2 1) := by
 obtain ⟨i, z, hi, hz, hs, hby, hzs⟩ := info2
 refine cloneR_ok (by omega) (fun b off n c news w hl hn hc h1 => ?_) (fun a c w => ?_) (fun n c w => AnyE.slices_Clone_nil lays57 n c w)
 ·refine Calls.mono (AnyE.slices_Clone lays57 i z 1 8 hi hz hs hby hzs (by omega) (fun w => run_size (by kernel_rfl) w) b off n c news w hl (by simp [maxLen]; omega) (by omega) hc h1) ?_
  rintro e w' ⟨v, rfl, ho, _, hB⟩
  exact ⟨v, rfl, ho, hB⟩
 ·exact clone_zero lays57 i z 1 8 hi hz hs hby hzs (by omega) (fun w => run_size (by kernel_rfl) w) a c w
noncomputable def A4 : Ctx := addI A3 56 paintG
noncomputable def A5 : Ctx := addR A4 54 allG
noncomputable def A6 : Ctx := addQ A5 53 meetP
noncomputable def A7 : Ctx := addQ A6 55 emptyP
noncomputable def A8 : Ctx := addN A7 18 harmP
noncomputable def A9 : Ctx := addN A8 52 (cloneR 39 15)
theorem A4_ok : COk Try.prog A4 := addI_ok A3_ok paintG_ok (fnOk_of Try.func56 (by kernel_rfl) (by kernel_rfl))
theorem A5_ok : COk Try.prog A5 := addR_ok A4_ok allG_ok (fnOk_of Try.func54 (by kernel_rfl) (by kernel_rfl))
theorem A6_ok : COk Try.prog A6 := addQ_ok A5_ok meetP_ok (fnOk_of Try.func53 (by kernel_rfl) (by kernel_rfl))
theorem A7_ok : COk Try.prog A7 := addQ_ok A6_ok emptyP_ok (fnOk_of Try.func55 (by kernel_rfl) (by kernel_rfl))
theorem A8_ok : COk Try.prog A8 := addN_ok A7_ok harmP_ok (fnOk_of Try.func18 (by kernel_rfl) (by kernel_rfl))
theorem A9_ok : COk Try.prog A9 := addN_ok A8_ok clone52_ok (fnOk_of Try.func52 (by kernel_rfl) (by kernel_rfl))
noncomputable def c36 : Code := bodyOf Try.f36
end Go.Proofs.Ytppklhfiajjhmaa.Ti
end
section
namespace Go.Proofs.Ytppklhfiajjhmaa.Ti
open Go Go.RowKit Go.Proofs.Ytppklhfiajjhmaa.Y
set_option linter.unusedVariables false
set_option linter.unusedSimpArgs false
def Bd (X Y S W H : Int) (d n nc : Nat) : Blk := ⟨.lst [iv X, iv Y, iv S, iv W, iv H, .va d 0 n 15, .va 1 0 nc 1], 90⟩
def MS (X Y S W H : Int) (d n nc : Nat) (cs : List (List Int)) (r : List (Option Blk)) : Mem := [some ⟨.lst [iv X, iv Y, iv S, iv W, iv H, .va d 0 n 15, .va 1 0 nc 1], 90⟩, some ⟨.recs (i64s 1) cs, 2⟩] ++ r
def SH (u : Nat → MV) (n1 : Nat) (a6 : MV) : List MV :=
 [.ptr 0 0, .va 3 0 n1 15, u 2, u 3, u 4, u 5, a6] ++ (List.range 37).map (fun i => u (i + 7))
def SL (u : Nat → MV) (t7 : Int) (len : Nat) (i : Int) : List MV :=
 [.ptr 0 0, u 1, u 2, u 3, u 4, u 5, u 6, iv t7, u 8, u 9, u 10, u 11, u 12, u 13, u 14, u 15, u 16, u 17, u 18, u 19, u 20, u 21, u 22, u 23, .va 4 0 len 4, iv len, iv i] ++ (List.range 17).map (fun i => u (i + 27))
set_option maxRecDepth 100000 in
theorem s0 (n1 : Nat) (m : Mem) (kk : KE) : xcode Try.prog E A9 1 (cut c36 [0]) ([.ptr 0 0, .va 3 0 n1 15] ++ List.replicate 42 (.val undef)) m kk =
  kk XE.normal [MV.ptr 0 0, MV.va 3 0 n1 15, MV.val (Value.tuple { toList := [] }), MV.val (Value.tuple { toList := [] }), iv 0, iv 0, MV.val (Value.tuple { toList := [] }), MV.val (Value.tuple { toList := [] }), MV.val (Value.tuple { toList := [] }), MV.val (Value.tuple { toList := [] }), MV.val (Value.tuple { toList := [] }), MV.val (Value.tuple { toList := [] }), MV.val (Value.tuple { toList := [] }), MV.val (Value.tuple { toList := [] }), MV.val (Value.tuple { toList := [] }), MV.val (Value.tuple { toList := [] }), MV.val (Value.tuple { toList := [] }), MV.val (Value.tuple { toList := [] }), MV.val (Value.tuple { toList := [] }), MV.val (Value.tuple { toList := [] }), MV.val (Value.tuple { toList := [] }), MV.val (Value.tuple { toList := [] }), MV.val (Value.tuple { toList := [] }), MV.val (Value.tuple { toList := [] }), MV.val (Value.tuple { toList := [] }), MV.val (Value.tuple { toList := [] }), MV.val (Value.tuple { toList := [] }), MV.val (Value.tuple { toList := [] }), MV.val (Value.tuple { toList := [] }), MV.val (Value.tuple { toList := [] }), MV.val (Value.tuple { toList := [] }), MV.val (Value.tuple { toList := [] }), MV.val (Value.tuple { toList := [] }), MV.val (Value.tuple { toList := [] }), MV.val (Value.tuple { toList := [] }), MV.val (Value.tuple { toList := [] }), MV.val (Value.tuple { toList := [] }), MV.val (Value.tuple { toList := [] }), MV.val (Value.tuple { toList := [] }), MV.val (Value.tuple { toList := [] }), MV.val (Value.tuple { toList := [] }), MV.val (Value.tuple { toList := [] }), MV.val (Value.tuple { toList := [] }), MV.val (Value.tuple { toList := [] })] m := by kernel_rfl
set_option maxRecDepth 100000 in
theorem s1 (u : Nat → MV) (n1 : Nat) (a6 : MV) (m : Mem) (kk : KE) : xcode Try.prog E A9 1 (cut c36 [1,0]) (SH u n1 a6) m kk =
  kk XE.normal [MV.ptr 0 0, MV.va 3 0 n1 15, u 2, u 3, u 4, u 5, a6, u 7, u 8, u 9, u 10, MV.ptr 0 0, MV.val (Value.bool false), u 13, u 14, u 15, u 16, u 17, u 18, u 19, u 20, u 21, u 22, u 23, u 24, u 25, u 26, u 27, u 28, u 29, u 30, u 31, u 32, u 33, u 34, u 35, u 36, u 37, u 38, u 39, u 40, u 41, u 42, u 43] m := by kernel_rfl
set_option maxRecDepth 100000 in
theorem s2 (u : Nat → MV) (n1 : Nat) (a6 : MV) (X Y S W H : Int) (n nc : Nat) (cs old new : List (List Int)) (kk : KE) : xcode Try.prog E A9 1 (cut c36 [1,1,0]) (SH u n1 a6) (MS X Y S W H 2 n nc cs [some ⟨.rrecs (i64s 15) old, 39⟩, some ⟨.rrecs (i64s 15) new, 39⟩]) kk =
  bif List.length old == n then bif List.length new == n1 then bif decide (List.length old + List.length new ≤ 90) then kk XE.normal [MV.ptr 0 0, MV.va 3 0 n1 15, u 2, u 3, u 4, u 5, MV.va 4 0 (List.length (harmL old new)) 4, u 7, u 8, u 9, u 10, u 11, u 12, MV.ptr 0 0, MV.ptr 0 0, MV.ptr 0 5, MV.va 2 0 n 15, MV.va 3 0 n1 15, MV.va 4 0 (List.length (harmL old new)) 4, u 19, u 20, u 21, u 22, u 23, u 24, u 25, u 26, u 27, u 28, u 29, u 30, u 31, u 32, u 33, u 34, u 35, u 36, u 37, u 38, u 39, u 40, u 41, u 42, u 43] [some { row := Row.lst [iv X, iv Y, iv S, iv W, iv H, MV.va 2 0 n 15, MV.va 1 0 nc 1], ty := 90 }, some { row := Row.recs [some IntKind.i64] cs, ty := 2 }, some { row := Row.rrecs [some IntKind.i64, some IntKind.i64, some IntKind.i64, some IntKind.i64, some IntKind.i64, some IntKind.i64, some IntKind.i64, some IntKind.i64, some IntKind.i64, some IntKind.i64, some IntKind.i64, some IntKind.i64, some IntKind.i64, some IntKind.i64, some IntKind.i64] old, ty := 39 }, some { row := Row.rrecs [some IntKind.i64, some IntKind.i64, some IntKind.i64, some IntKind.i64, some IntKind.i64, some IntKind.i64, some IntKind.i64, some IntKind.i64, some IntKind.i64, some IntKind.i64, some IntKind.i64, some IntKind.i64, some IntKind.i64, some IntKind.i64, some IntKind.i64] new, ty := 39 }, some { row := Row.recs [some IntKind.i64, some IntKind.i64, some IntKind.i64, some IntKind.i64] (harmL old new), ty := 37 }] else none else none else none := by kernel_rfl
set_option maxRecDepth 100000 in
theorem s3 (u : Nat → MV) (n1 : Nat) (a6 : MV) (X Y S W H : Int) (n nc : Nat) (cs old new : List (List Int)) (hb : Option Blk) (kk : KE) : xcode Try.prog E A9 1 (cut c36 [1,1,1,0]) (SH u n1 a6) (MS X Y S W H 2 n nc cs [some ⟨.rrecs (i64s 15) old, 39⟩, some ⟨.rrecs (i64s 15) new, 39⟩, hb]) kk =
  bif List.length new == n1 then bif decide (List.length new ≤ 1000000) then kk XE.normal [MV.ptr 0 0, MV.va 3 0 n1 15, u 2, u 3, u 4, u 5, a6, u 7, u 8, u 9, u 10, u 11, u 12, u 13, u 14, u 15, u 16, u 17, u 18, MV.ptr 0 0, MV.va 3 0 n1 15, MV.va 5 0 (List.length new) 15, MV.ptr 0 0, MV.ptr 0 5, u 24, u 25, u 26, u 27, u 28, u 29, u 30, u 31, u 32, u 33, u 34, u 35, u 36, u 37, u 38, u 39, u 40, u 41, u 42, u 43] [some { row := Row.lst [iv X, iv Y, iv S, iv W, iv H, MV.va 5 0 (List.length new) 15, MV.va 1 0 nc 1], ty := 90 }, some { row := Row.recs [some IntKind.i64] cs, ty := 2 }, some { row := Row.rrecs [some IntKind.i64, some IntKind.i64, some IntKind.i64, some IntKind.i64, some IntKind.i64, some IntKind.i64, some IntKind.i64, some IntKind.i64, some IntKind.i64, some IntKind.i64, some IntKind.i64, some IntKind.i64, some IntKind.i64, some IntKind.i64, some IntKind.i64] old, ty := 39 }, some { row := Row.rrecs [some IntKind.i64, some IntKind.i64, some IntKind.i64, some IntKind.i64, some IntKind.i64, some IntKind.i64, some IntKind.i64, some IntKind.i64, some IntKind.i64, some IntKind.i64, some IntKind.i64, some IntKind.i64, some IntKind.i64, some IntKind.i64, some IntKind.i64] new, ty := 39 }, hb, some { row := Row.recs [some IntKind.i64, some IntKind.i64, some IntKind.i64, some IntKind.i64, some IntKind.i64, some IntKind.i64, some IntKind.i64, some IntKind.i64, some IntKind.i64, some IntKind.i64, some IntKind.i64, some IntKind.i64, some IntKind.i64, some IntKind.i64, some IntKind.i64] new, ty := 39 }] else none else none := by kernel_rfl
set_option maxRecDepth 100000 in
theorem s4 (u : Nat → MV) (n1 : Nat) (a6 : MV) (m : Mem) (kk : KE) : xcode Try.prog E A9 1 (cut c36 [1,1,1,1,0]) (SH u n1 a6) m kk =
  kk XE.normal [MV.ptr 0 0, MV.va 3 0 n1 15, u 2, u 3, u 4, u 5, a6, iv 0, u 8, u 9, u 10, u 11, u 12, u 13, u 14, u 15, u 16, u 17, u 18, u 19, u 20, u 21, u 22, u 23, u 24, u 25, u 26, u 27, u 28, u 29, u 30, u 31, u 32, u 33, u 34, u 35, u 36, u 37, u 38, u 39, u 40, u 41, u 42, u 43] m := by kernel_rfl
set_option maxRecDepth 100000 in
theorem s6 (u : Nat → MV) (t7 : Int) (len : Nat) (i : Int) (X Y S W H : Int) (n nc : Nat) (cs it rs : List (List Int)) (o2 o3 : Option Blk) (kk : KE) : xcode Try.prog E A9 1 (cut c36 [1,1,1,1,1,0,1,0,0]) (SL u t7 len i) (MS X Y S W H 5 n nc cs [o2, o3, some ⟨.recs (i64s 4) rs, 37⟩, some ⟨.recs (i64s 15) it, 39⟩]) kk =
  bif decide (i < (↑len : Int)) then bif decide (0 ≤ i ∧ i < (↑len : Int)) then bif decide (0 + Int.toNat i < List.length rs) then bif !empL (PPT.S37.f0 (meetL (List.getD (List.getD rs (0 + Int.toNat i) []) 0 0) (List.getD (List.getD rs (0 + Int.toNat i) []) (0 + 1) 0) (List.getD (List.getD rs (0 + Int.toNat i) []) (0 + 1 + 1) 0) (List.getD (List.getD rs (0 + Int.toNat i) []) (0 + 1 + 1 + 1) 0) X Y (w6 (X + w6 (W * S))) (w6 (Y + w6 (H * S))))) (PPT.S37.f1 (meetL (List.getD (List.getD rs (0 + Int.toNat i) []) 0 0) (List.getD (List.getD rs (0 + Int.toNat i) []) (0 + 1) 0) (List.getD (List.getD rs (0 + Int.toNat i) []) (0 + 1 + 1) 0) (List.getD (List.getD rs (0 + Int.toNat i) []) (0 + 1 + 1 + 1) 0) X Y (w6 (X + w6 (W * S))) (w6 (Y + w6 (H * S))))) (PPT.S37.f2 (meetL (List.getD (List.getD rs (0 + Int.toNat i) []) 0 0) (List.getD (List.getD rs (0 + Int.toNat i) []) (0 + 1) 0) (List.getD (List.getD rs (0 + Int.toNat i) []) (0 + 1 + 1) 0) (List.getD (List.getD rs (0 + Int.toNat i) []) (0 + 1 + 1 + 1) 0) X Y (w6 (X + w6 (W * S))) (w6 (Y + w6 (H * S))))) (PPT.S37.f3 (meetL (List.getD (List.getD rs (0 + Int.toNat i) []) 0 0) (List.getD (List.getD rs (0 + Int.toNat i) []) (0 + 1) 0) (List.getD (List.getD rs (0 + Int.toNat i) []) (0 + 1 + 1) 0) (List.getD (List.getD rs (0 + Int.toNat i) []) (0 + 1 + 1 + 1) 0) X Y (w6 (X + w6 (W * S))) (w6 (Y + w6 (H * S))))) then bif paintOk X Y S W H n nc cs it (PPT.S37.f0 (meetL (List.getD (List.getD rs (0 + Int.toNat i) []) 0 0) (List.getD (List.getD rs (0 + Int.toNat i) []) (0 + 1) 0) (List.getD (List.getD rs (0 + Int.toNat i) []) (0 + 1 + 1) 0) (List.getD (List.getD rs (0 + Int.toNat i) []) (0 + 1 + 1 + 1) 0) X Y (w6 (X + w6 (W * S))) (w6 (Y + w6 (H * S))))) (PPT.S37.f1 (meetL (List.getD (List.getD rs (0 + Int.toNat i) []) 0 0) (List.getD (List.getD rs (0 + Int.toNat i) []) (0 + 1) 0) (List.getD (List.getD rs (0 + Int.toNat i) []) (0 + 1 + 1) 0) (List.getD (List.getD rs (0 + Int.toNat i) []) (0 + 1 + 1 + 1) 0) X Y (w6 (X + w6 (W * S))) (w6 (Y + w6 (H * S))))) (PPT.S37.f2 (meetL (List.getD (List.getD rs (0 + Int.toNat i) []) 0 0) (List.getD (List.getD rs (0 + Int.toNat i) []) (0 + 1) 0) (List.getD (List.getD rs (0 + Int.toNat i) []) (0 + 1 + 1) 0) (List.getD (List.getD rs (0 + Int.toNat i) []) (0 + 1 + 1 + 1) 0) X Y (w6 (X + w6 (W * S))) (w6 (Y + w6 (H * S))))) (PPT.S37.f3 (meetL (List.getD (List.getD rs (0 + Int.toNat i) []) 0 0) (List.getD (List.getD rs (0 + Int.toNat i) []) (0 + 1) 0) (List.getD (List.getD rs (0 + Int.toNat i) []) (0 + 1 + 1) 0) (List.getD (List.getD rs (0 + Int.toNat i) []) (0 + 1 + 1 + 1) 0) X Y (w6 (X + w6 (W * S))) (w6 (Y + w6 (H * S))))) then kk XE.normal [MV.ptr 0 0, u 1, u 2, u 3, u 4, u 5, u 6, iv (IntKind.wrap IntKind.i64 (t7 + paintN X Y S W H (PPT.S37.f0 (meetL (List.getD (List.getD rs (0 + Int.toNat i) []) 0 0) (List.getD (List.getD rs (0 + Int.toNat i) []) (0 + 1) 0) (List.getD (List.getD rs (0 + Int.toNat i) []) (0 + 1 + 1) 0) (List.getD (List.getD rs (0 + Int.toNat i) []) (0 + 1 + 1 + 1) 0) X Y (w6 (X + w6 (W * S))) (w6 (Y + w6 (H * S))))) (PPT.S37.f1 (meetL (List.getD (List.getD rs (0 + Int.toNat i) []) 0 0) (List.getD (List.getD rs (0 + Int.toNat i) []) (0 + 1) 0) (List.getD (List.getD rs (0 + Int.toNat i) []) (0 + 1 + 1) 0) (List.getD (List.getD rs (0 + Int.toNat i) []) (0 + 1 + 1 + 1) 0) X Y (w6 (X + w6 (W * S))) (w6 (Y + w6 (H * S))))) (PPT.S37.f2 (meetL (List.getD (List.getD rs (0 + Int.toNat i) []) 0 0) (List.getD (List.getD rs (0 + Int.toNat i) []) (0 + 1) 0) (List.getD (List.getD rs (0 + Int.toNat i) []) (0 + 1 + 1) 0) (List.getD (List.getD rs (0 + Int.toNat i) []) (0 + 1 + 1 + 1) 0) X Y (w6 (X + w6 (W * S))) (w6 (Y + w6 (H * S))))) (PPT.S37.f3 (meetL (List.getD (List.getD rs (0 + Int.toNat i) []) 0 0) (List.getD (List.getD rs (0 + Int.toNat i) []) (0 + 1) 0) (List.getD (List.getD rs (0 + Int.toNat i) []) (0 + 1 + 1) 0) (List.getD (List.getD rs (0 + Int.toNat i) []) (0 + 1 + 1 + 1) 0) X Y (w6 (X + w6 (W * S))) (w6 (Y + w6 (H * S))))))), u 8, MV.ptr 6 0, MV.ptr 11 0, u 11, u 12, u 13, u 14, u 15, u 16, u 17, u 18, u 19, u 20, u 21, u 22, u 23, MV.va 4 0 len 4, iv (↑len : Int), iv (IntKind.wrap IntKind.i64 (i + 1)), MV.val (Value.bool true), MV.pe 4 4 (0 + Int.toNat i) 0, MV.agg [iv (List.getD (List.getD rs (0 + Int.toNat i) []) 0 0), iv (List.getD (List.getD rs (0 + Int.toNat i) []) (0 + 1) 0), iv (List.getD (List.getD rs (0 + Int.toNat i) []) (0 + 1 + 1) 0), iv (List.getD (List.getD rs (0 + Int.toNat i) []) (0 + 1 + 1 + 1) 0)], MV.agg [iv (List.getD (List.getD rs (0 + Int.toNat i) []) 0 0), iv (List.getD (List.getD rs (0 + Int.toNat i) []) (0 + 1) 0), iv (List.getD (List.getD rs (0 + Int.toNat i) []) (0 + 1 + 1) 0), iv (List.getD (List.getD rs (0 + Int.toNat i) []) (0 + 1 + 1 + 1) 0)], MV.ptr 0 0, MV.agg [iv X, iv Y, iv (w6 (X + w6 (W * S))), iv (w6 (Y + w6 (H * S)))], MV.agg [iv (PPT.S37.f0 (meetL (List.getD (List.getD rs (0 + Int.toNat i) []) 0 0) (List.getD (List.getD rs (0 + Int.toNat i) []) (0 + 1) 0) (List.getD (List.getD rs (0 + Int.toNat i) []) (0 + 1 + 1) 0) (List.getD (List.getD rs (0 + Int.toNat i) []) (0 + 1 + 1 + 1) 0) X Y (w6 (X + w6 (W * S))) (w6 (Y + w6 (H * S))))), iv (PPT.S37.f1 (meetL (List.getD (List.getD rs (0 + Int.toNat i) []) 0 0) (List.getD (List.getD rs (0 + Int.toNat i) []) (0 + 1) 0) (List.getD (List.getD rs (0 + Int.toNat i) []) (0 + 1 + 1) 0) (List.getD (List.getD rs (0 + Int.toNat i) []) (0 + 1 + 1 + 1) 0) X Y (w6 (X + w6 (W * S))) (w6 (Y + w6 (H * S))))), iv (PPT.S37.f2 (meetL (List.getD (List.getD rs (0 + Int.toNat i) []) 0 0) (List.getD (List.getD rs (0 + Int.toNat i) []) (0 + 1) 0) (List.getD (List.getD rs (0 + Int.toNat i) []) (0 + 1 + 1) 0) (List.getD (List.getD rs (0 + Int.toNat i) []) (0 + 1 + 1 + 1) 0) X Y (w6 (X + w6 (W * S))) (w6 (Y + w6 (H * S))))), iv (PPT.S37.f3 (meetL (List.getD (List.getD rs (0 + Int.toNat i) []) 0 0) (List.getD (List.getD rs (0 + Int.toNat i) []) (0 + 1) 0) (List.getD (List.getD rs (0 + Int.toNat i) []) (0 + 1 + 1) 0) (List.getD (List.getD rs (0 + Int.toNat i) []) (0 + 1 + 1 + 1) 0) X Y (w6 (X + w6 (W * S))) (w6 (Y + w6 (H * S)))))], MV.agg [iv (PPT.S37.f0 (meetL (List.getD (List.getD rs (0 + Int.toNat i) []) 0 0) (List.getD (List.getD rs (0 + Int.toNat i) []) (0 + 1) 0) (List.getD (List.getD rs (0 + Int.toNat i) []) (0 + 1 + 1) 0) (List.getD (List.getD rs (0 + Int.toNat i) []) (0 + 1 + 1 + 1) 0) X Y (w6 (X + w6 (W * S))) (w6 (Y + w6 (H * S))))), iv (PPT.S37.f1 (meetL (List.getD (List.getD rs (0 + Int.toNat i) []) 0 0) (List.getD (List.getD rs (0 + Int.toNat i) []) (0 + 1) 0) (List.getD (List.getD rs (0 + Int.toNat i) []) (0 + 1 + 1) 0) (List.getD (List.getD rs (0 + Int.toNat i) []) (0 + 1 + 1 + 1) 0) X Y (w6 (X + w6 (W * S))) (w6 (Y + w6 (H * S))))), iv (PPT.S37.f2 (meetL (List.getD (List.getD rs (0 + Int.toNat i) []) 0 0) (List.getD (List.getD rs (0 + Int.toNat i) []) (0 + 1) 0) (List.getD (List.getD rs (0 + Int.toNat i) []) (0 + 1 + 1) 0) (List.getD (List.getD rs (0 + Int.toNat i) []) (0 + 1 + 1 + 1) 0) X Y (w6 (X + w6 (W * S))) (w6 (Y + w6 (H * S))))), iv (PPT.S37.f3 (meetL (List.getD (List.getD rs (0 + Int.toNat i) []) 0 0) (List.getD (List.getD rs (0 + Int.toNat i) []) (0 + 1) 0) (List.getD (List.getD rs (0 + Int.toNat i) []) (0 + 1 + 1) 0) (List.getD (List.getD rs (0 + Int.toNat i) []) (0 + 1 + 1 + 1) 0) X Y (w6 (X + w6 (W * S))) (w6 (Y + w6 (H * S)))))], MV.val (Value.bool (empL (PPT.S37.f0 (meetL (List.getD (List.getD rs (0 + Int.toNat i) []) 0 0) (List.getD (List.getD rs (0 + Int.toNat i) []) (0 + 1) 0) (List.getD (List.getD rs (0 + Int.toNat i) []) (0 + 1 + 1) 0) (List.getD (List.getD rs (0 + Int.toNat i) []) (0 + 1 + 1 + 1) 0) X Y (w6 (X + w6 (W * S))) (w6 (Y + w6 (H * S))))) (PPT.S37.f1 (meetL (List.getD (List.getD rs (0 + Int.toNat i) []) 0 0) (List.getD (List.getD rs (0 + Int.toNat i) []) (0 + 1) 0) (List.getD (List.getD rs (0 + Int.toNat i) []) (0 + 1 + 1) 0) (List.getD (List.getD rs (0 + Int.toNat i) []) (0 + 1 + 1 + 1) 0) X Y (w6 (X + w6 (W * S))) (w6 (Y + w6 (H * S))))) (PPT.S37.f2 (meetL (List.getD (List.getD rs (0 + Int.toNat i) []) 0 0) (List.getD (List.getD rs (0 + Int.toNat i) []) (0 + 1) 0) (List.getD (List.getD rs (0 + Int.toNat i) []) (0 + 1 + 1) 0) (List.getD (List.getD rs (0 + Int.toNat i) []) (0 + 1 + 1 + 1) 0) X Y (w6 (X + w6 (W * S))) (w6 (Y + w6 (H * S))))) (PPT.S37.f3 (meetL (List.getD (List.getD rs (0 + Int.toNat i) []) 0 0) (List.getD (List.getD rs (0 + Int.toNat i) []) (0 + 1) 0) (List.getD (List.getD rs (0 + Int.toNat i) []) (0 + 1 + 1) 0) (List.getD (List.getD rs (0 + Int.toNat i) []) (0 + 1 + 1 + 1) 0) X Y (w6 (X + w6 (W * S))) (w6 (Y + w6 (H * S))))))), MV.val (Value.bool true), iv t7, MV.ptr 0 0, MV.agg [iv (PPT.S37.f0 (meetL (List.getD (List.getD rs (0 + Int.toNat i) []) 0 0) (List.getD (List.getD rs (0 + Int.toNat i) []) (0 + 1) 0) (List.getD (List.getD rs (0 + Int.toNat i) []) (0 + 1 + 1) 0) (List.getD (List.getD rs (0 + Int.toNat i) []) (0 + 1 + 1 + 1) 0) X Y (w6 (X + w6 (W * S))) (w6 (Y + w6 (H * S))))), iv (PPT.S37.f1 (meetL (List.getD (List.getD rs (0 + Int.toNat i) []) 0 0) (List.getD (List.getD rs (0 + Int.toNat i) []) (0 + 1) 0) (List.getD (List.getD rs (0 + Int.toNat i) []) (0 + 1 + 1) 0) (List.getD (List.getD rs (0 + Int.toNat i) []) (0 + 1 + 1 + 1) 0) X Y (w6 (X + w6 (W * S))) (w6 (Y + w6 (H * S))))), iv (PPT.S37.f2 (meetL (List.getD (List.getD rs (0 + Int.toNat i) []) 0 0) (List.getD (List.getD rs (0 + Int.toNat i) []) (0 + 1) 0) (List.getD (List.getD rs (0 + Int.toNat i) []) (0 + 1 + 1) 0) (List.getD (List.getD rs (0 + Int.toNat i) []) (0 + 1 + 1 + 1) 0) X Y (w6 (X + w6 (W * S))) (w6 (Y + w6 (H * S))))), iv (PPT.S37.f3 (meetL (List.getD (List.getD rs (0 + Int.toNat i) []) 0 0) (List.getD (List.getD rs (0 + Int.toNat i) []) (0 + 1) 0) (List.getD (List.getD rs (0 + Int.toNat i) []) (0 + 1 + 1) 0) (List.getD (List.getD rs (0 + Int.toNat i) []) (0 + 1 + 1 + 1) 0) X Y (w6 (X + w6 (W * S))) (w6 (Y + w6 (H * S)))))], iv (paintN X Y S W H (PPT.S37.f0 (meetL (List.getD (List.getD rs (0 + Int.toNat i) []) 0 0) (List.getD (List.getD rs (0 + Int.toNat i) []) (0 + 1) 0) (List.getD (List.getD rs (0 + Int.toNat i) []) (0 + 1 + 1) 0) (List.getD (List.getD rs (0 + Int.toNat i) []) (0 + 1 + 1 + 1) 0) X Y (w6 (X + w6 (W * S))) (w6 (Y + w6 (H * S))))) (PPT.S37.f1 (meetL (List.getD (List.getD rs (0 + Int.toNat i) []) 0 0) (List.getD (List.getD rs (0 + Int.toNat i) []) (0 + 1) 0) (List.getD (List.getD rs (0 + Int.toNat i) []) (0 + 1 + 1) 0) (List.getD (List.getD rs (0 + Int.toNat i) []) (0 + 1 + 1 + 1) 0) X Y (w6 (X + w6 (W * S))) (w6 (Y + w6 (H * S))))) (PPT.S37.f2 (meetL (List.getD (List.getD rs (0 + Int.toNat i) []) 0 0) (List.getD (List.getD rs (0 + Int.toNat i) []) (0 + 1) 0) (List.getD (List.getD rs (0 + Int.toNat i) []) (0 + 1 + 1) 0) (List.getD (List.getD rs (0 + Int.toNat i) []) (0 + 1 + 1 + 1) 0) X Y (w6 (X + w6 (W * S))) (w6 (Y + w6 (H * S))))) (PPT.S37.f3 (meetL (List.getD (List.getD rs (0 + Int.toNat i) []) 0 0) (List.getD (List.getD rs (0 + Int.toNat i) []) (0 + 1) 0) (List.getD (List.getD rs (0 + Int.toNat i) []) (0 + 1 + 1) 0) (List.getD (List.getD rs (0 + Int.toNat i) []) (0 + 1 + 1 + 1) 0) X Y (w6 (X + w6 (W * S))) (w6 (Y + w6 (H * S)))))), iv (IntKind.wrap IntKind.i64 (t7 + paintN X Y S W H (PPT.S37.f0 (meetL (List.getD (List.getD rs (0 + Int.toNat i) []) 0 0) (List.getD (List.getD rs (0 + Int.toNat i) []) (0 + 1) 0) (List.getD (List.getD rs (0 + Int.toNat i) []) (0 + 1 + 1) 0) (List.getD (List.getD rs (0 + Int.toNat i) []) (0 + 1 + 1 + 1) 0) X Y (w6 (X + w6 (W * S))) (w6 (Y + w6 (H * S))))) (PPT.S37.f1 (meetL (List.getD (List.getD rs (0 + Int.toNat i) []) 0 0) (List.getD (List.getD rs (0 + Int.toNat i) []) (0 + 1) 0) (List.getD (List.getD rs (0 + Int.toNat i) []) (0 + 1 + 1) 0) (List.getD (List.getD rs (0 + Int.toNat i) []) (0 + 1 + 1 + 1) 0) X Y (w6 (X + w6 (W * S))) (w6 (Y + w6 (H * S))))) (PPT.S37.f2 (meetL (List.getD (List.getD rs (0 + Int.toNat i) []) 0 0) (List.getD (List.getD rs (0 + Int.toNat i) []) (0 + 1) 0) (List.getD (List.getD rs (0 + Int.toNat i) []) (0 + 1 + 1) 0) (List.getD (List.getD rs (0 + Int.toNat i) []) (0 + 1 + 1 + 1) 0) X Y (w6 (X + w6 (W * S))) (w6 (Y + w6 (H * S))))) (PPT.S37.f3 (meetL (List.getD (List.getD rs (0 + Int.toNat i) []) 0 0) (List.getD (List.getD rs (0 + Int.toNat i) []) (0 + 1) 0) (List.getD (List.getD rs (0 + Int.toNat i) []) (0 + 1 + 1) 0) (List.getD (List.getD rs (0 + Int.toNat i) []) (0 + 1 + 1 + 1) 0) X Y (w6 (X + w6 (W * S))) (w6 (Y + w6 (H * S))))))), iv (IntKind.wrap IntKind.i64 (i + 1)), u 43] [some { row := Row.lst [iv X, iv Y, iv S, iv W, iv H, MV.va 5 0 n 15, MV.va 1 0 nc 1], ty := 90 }, some { row := Row.recs [some IntKind.i64] (paintC X Y S W H it (PPT.S37.f0 (meetL (List.getD (List.getD rs (0 + Int.toNat i) []) 0 0) (List.getD (List.getD rs (0 + Int.toNat i) []) (0 + 1) 0) (List.getD (List.getD rs (0 + Int.toNat i) []) (0 + 1 + 1) 0) (List.getD (List.getD rs (0 + Int.toNat i) []) (0 + 1 + 1 + 1) 0) X Y (w6 (X + w6 (W * S))) (w6 (Y + w6 (H * S))))) (PPT.S37.f1 (meetL (List.getD (List.getD rs (0 + Int.toNat i) []) 0 0) (List.getD (List.getD rs (0 + Int.toNat i) []) (0 + 1) 0) (List.getD (List.getD rs (0 + Int.toNat i) []) (0 + 1 + 1) 0) (List.getD (List.getD rs (0 + Int.toNat i) []) (0 + 1 + 1 + 1) 0) X Y (w6 (X + w6 (W * S))) (w6 (Y + w6 (H * S))))) (PPT.S37.f2 (meetL (List.getD (List.getD rs (0 + Int.toNat i) []) 0 0) (List.getD (List.getD rs (0 + Int.toNat i) []) (0 + 1) 0) (List.getD (List.getD rs (0 + Int.toNat i) []) (0 + 1 + 1) 0) (List.getD (List.getD rs (0 + Int.toNat i) []) (0 + 1 + 1 + 1) 0) X Y (w6 (X + w6 (W * S))) (w6 (Y + w6 (H * S))))) (PPT.S37.f3 (meetL (List.getD (List.getD rs (0 + Int.toNat i) []) 0 0) (List.getD (List.getD rs (0 + Int.toNat i) []) (0 + 1) 0) (List.getD (List.getD rs (0 + Int.toNat i) []) (0 + 1 + 1) 0) (List.getD (List.getD rs (0 + Int.toNat i) []) (0 + 1 + 1 + 1) 0) X Y (w6 (X + w6 (W * S))) (w6 (Y + w6 (H * S))))) cs), ty := 2 }, o2, o3, some { row := Row.recs [some IntKind.i64, some IntKind.i64, some IntKind.i64, some IntKind.i64] rs, ty := 37 }, some { row := Row.recs [some IntKind.i64, some IntKind.i64, some IntKind.i64, some IntKind.i64, some IntKind.i64, some IntKind.i64, some IntKind.i64, some IntKind.i64, some IntKind.i64, some IntKind.i64, some IntKind.i64, some IntKind.i64, some IntKind.i64, some IntKind.i64, some IntKind.i64] it, ty := 39 }, some { row := Row.lst [iv (List.getD (List.getD rs (0 + Int.toNat i) []) 0 0), iv (List.getD (List.getD rs (0 + Int.toNat i) []) (0 + 1) 0), iv (List.getD (List.getD rs (0 + Int.toNat i) []) (0 + 1 + 1) 0), iv (List.getD (List.getD rs (0 + Int.toNat i) []) (0 + 1 + 1 + 1) 0)], ty := 37 }, none, none, none, none, some { row := Row.lst [iv (PPT.S37.f0 (meetL (List.getD (List.getD rs (0 + Int.toNat i) []) 0 0) (List.getD (List.getD rs (0 + Int.toNat i) []) (0 + 1) 0) (List.getD (List.getD rs (0 + Int.toNat i) []) (0 + 1 + 1) 0) (List.getD (List.getD rs (0 + Int.toNat i) []) (0 + 1 + 1 + 1) 0) X Y (w6 (X + w6 (W * S))) (w6 (Y + w6 (H * S))))), iv (PPT.S37.f1 (meetL (List.getD (List.getD rs (0 + Int.toNat i) []) 0 0) (List.getD (List.getD rs (0 + Int.toNat i) []) (0 + 1) 0) (List.getD (List.getD rs (0 + Int.toNat i) []) (0 + 1 + 1) 0) (List.getD (List.getD rs (0 + Int.toNat i) []) (0 + 1 + 1 + 1) 0) X Y (w6 (X + w6 (W * S))) (w6 (Y + w6 (H * S))))), iv (PPT.S37.f2 (meetL (List.getD (List.getD rs (0 + Int.toNat i) []) 0 0) (List.getD (List.getD rs (0 + Int.toNat i) []) (0 + 1) 0) (List.getD (List.getD rs (0 + Int.toNat i) []) (0 + 1 + 1) 0) (List.getD (List.getD rs (0 + Int.toNat i) []) (0 + 1 + 1 + 1) 0) X Y (w6 (X + w6 (W * S))) (w6 (Y + w6 (H * S))))), iv (PPT.S37.f3 (meetL (List.getD (List.getD rs (0 + Int.toNat i) []) 0 0) (List.getD (List.getD rs (0 + Int.toNat i) []) (0 + 1) 0) (List.getD (List.getD rs (0 + Int.toNat i) []) (0 + 1 + 1) 0) (List.getD (List.getD rs (0 + Int.toNat i) []) (0 + 1 + 1 + 1) 0) X Y (w6 (X + w6 (W * S))) (w6 (Y + w6 (H * S)))))], ty := 37 }, none] else none else kk XE.normal [MV.ptr 0 0, u 1, u 2, u 3, u 4, u 5, u 6, iv t7, u 8, MV.ptr 6 0, MV.ptr 11 0, u 11, u 12, u 13, u 14, u 15, u 16, u 17, u 18, u 19, u 20, u 21, u 22, u 23, MV.va 4 0 len 4, iv (↑len : Int), iv (IntKind.wrap IntKind.i64 (i + 1)), MV.val (Value.bool true), MV.pe 4 4 (0 + Int.toNat i) 0, MV.agg [iv (List.getD (List.getD rs (0 + Int.toNat i) []) 0 0), iv (List.getD (List.getD rs (0 + Int.toNat i) []) (0 + 1) 0), iv (List.getD (List.getD rs (0 + Int.toNat i) []) (0 + 1 + 1) 0), iv (List.getD (List.getD rs (0 + Int.toNat i) []) (0 + 1 + 1 + 1) 0)], MV.agg [iv (List.getD (List.getD rs (0 + Int.toNat i) []) 0 0), iv (List.getD (List.getD rs (0 + Int.toNat i) []) (0 + 1) 0), iv (List.getD (List.getD rs (0 + Int.toNat i) []) (0 + 1 + 1) 0), iv (List.getD (List.getD rs (0 + Int.toNat i) []) (0 + 1 + 1 + 1) 0)], MV.ptr 0 0, MV.agg [iv X, iv Y, iv (w6 (X + w6 (W * S))), iv (w6 (Y + w6 (H * S)))], MV.agg [iv (PPT.S37.f0 (meetL (List.getD (List.getD rs (0 + Int.toNat i) []) 0 0) (List.getD (List.getD rs (0 + Int.toNat i) []) (0 + 1) 0) (List.getD (List.getD rs (0 + Int.toNat i) []) (0 + 1 + 1) 0) (List.getD (List.getD rs (0 + Int.toNat i) []) (0 + 1 + 1 + 1) 0) X Y (w6 (X + w6 (W * S))) (w6 (Y + w6 (H * S))))), iv (PPT.S37.f1 (meetL (List.getD (List.getD rs (0 + Int.toNat i) []) 0 0) (List.getD (List.getD rs (0 + Int.toNat i) []) (0 + 1) 0) (List.getD (List.getD rs (0 + Int.toNat i) []) (0 + 1 + 1) 0) (List.getD (List.getD rs (0 + Int.toNat i) []) (0 + 1 + 1 + 1) 0) X Y (w6 (X + w6 (W * S))) (w6 (Y + w6 (H * S))))), iv (PPT.S37.f2 (meetL (List.getD (List.getD rs (0 + Int.toNat i) []) 0 0) (List.getD (List.getD rs (0 + Int.toNat i) []) (0 + 1) 0) (List.getD (List.getD rs (0 + Int.toNat i) []) (0 + 1 + 1) 0) (List.getD (List.getD rs (0 + Int.toNat i) []) (0 + 1 + 1 + 1) 0) X Y (w6 (X + w6 (W * S))) (w6 (Y + w6 (H * S))))), iv (PPT.S37.f3 (meetL (List.getD (List.getD rs (0 + Int.toNat i) []) 0 0) (List.getD (List.getD rs (0 + Int.toNat i) []) (0 + 1) 0) (List.getD (List.getD rs (0 + Int.toNat i) []) (0 + 1 + 1) 0) (List.getD (List.getD rs (0 + Int.toNat i) []) (0 + 1 + 1 + 1) 0) X Y (w6 (X + w6 (W * S))) (w6 (Y + w6 (H * S)))))], MV.agg [iv (PPT.S37.f0 (meetL (List.getD (List.getD rs (0 + Int.toNat i) []) 0 0) (List.getD (List.getD rs (0 + Int.toNat i) []) (0 + 1) 0) (List.getD (List.getD rs (0 + Int.toNat i) []) (0 + 1 + 1) 0) (List.getD (List.getD rs (0 + Int.toNat i) []) (0 + 1 + 1 + 1) 0) X Y (w6 (X + w6 (W * S))) (w6 (Y + w6 (H * S))))), iv (PPT.S37.f1 (meetL (List.getD (List.getD rs (0 + Int.toNat i) []) 0 0) (List.getD (List.getD rs (0 + Int.toNat i) []) (0 + 1) 0) (List.getD (List.getD rs (0 + Int.toNat i) []) (0 + 1 + 1) 0) (List.getD (List.getD rs (0 + Int.toNat i) []) (0 + 1 + 1 + 1) 0) X Y (w6 (X + w6 (W * S))) (w6 (Y + w6 (H * S))))), iv (PPT.S37.f2 (meetL (List.getD (List.getD rs (0 + Int.toNat i) []) 0 0) (List.getD (List.getD rs (0 + Int.toNat i) []) (0 + 1) 0) (List.getD (List.getD rs (0 + Int.toNat i) []) (0 + 1 + 1) 0) (List.getD (List.getD rs (0 + Int.toNat i) []) (0 + 1 + 1 + 1) 0) X Y (w6 (X + w6 (W * S))) (w6 (Y + w6 (H * S))))), iv (PPT.S37.f3 (meetL (List.getD (List.getD rs (0 + Int.toNat i) []) 0 0) (List.getD (List.getD rs (0 + Int.toNat i) []) (0 + 1) 0) (List.getD (List.getD rs (0 + Int.toNat i) []) (0 + 1 + 1) 0) (List.getD (List.getD rs (0 + Int.toNat i) []) (0 + 1 + 1 + 1) 0) X Y (w6 (X + w6 (W * S))) (w6 (Y + w6 (H * S)))))], MV.val (Value.bool (empL (PPT.S37.f0 (meetL (List.getD (List.getD rs (0 + Int.toNat i) []) 0 0) (List.getD (List.getD rs (0 + Int.toNat i) []) (0 + 1) 0) (List.getD (List.getD rs (0 + Int.toNat i) []) (0 + 1 + 1) 0) (List.getD (List.getD rs (0 + Int.toNat i) []) (0 + 1 + 1 + 1) 0) X Y (w6 (X + w6 (W * S))) (w6 (Y + w6 (H * S))))) (PPT.S37.f1 (meetL (List.getD (List.getD rs (0 + Int.toNat i) []) 0 0) (List.getD (List.getD rs (0 + Int.toNat i) []) (0 + 1) 0) (List.getD (List.getD rs (0 + Int.toNat i) []) (0 + 1 + 1) 0) (List.getD (List.getD rs (0 + Int.toNat i) []) (0 + 1 + 1 + 1) 0) X Y (w6 (X + w6 (W * S))) (w6 (Y + w6 (H * S))))) (PPT.S37.f2 (meetL (List.getD (List.getD rs (0 + Int.toNat i) []) 0 0) (List.getD (List.getD rs (0 + Int.toNat i) []) (0 + 1) 0) (List.getD (List.getD rs (0 + Int.toNat i) []) (0 + 1 + 1) 0) (List.getD (List.getD rs (0 + Int.toNat i) []) (0 + 1 + 1 + 1) 0) X Y (w6 (X + w6 (W * S))) (w6 (Y + w6 (H * S))))) (PPT.S37.f3 (meetL (List.getD (List.getD rs (0 + Int.toNat i) []) 0 0) (List.getD (List.getD rs (0 + Int.toNat i) []) (0 + 1) 0) (List.getD (List.getD rs (0 + Int.toNat i) []) (0 + 1 + 1) 0) (List.getD (List.getD rs (0 + Int.toNat i) []) (0 + 1 + 1 + 1) 0) X Y (w6 (X + w6 (W * S))) (w6 (Y + w6 (H * S))))))), MV.val (Value.bool false), u 37, u 38, u 39, u 40, u 41, iv (IntKind.wrap IntKind.i64 (i + 1)), u 43] [some { row := Row.lst [iv X, iv Y, iv S, iv W, iv H, MV.va 5 0 n 15, MV.va 1 0 nc 1], ty := 90 }, some { row := Row.recs [some IntKind.i64] cs, ty := 2 }, o2, o3, some { row := Row.recs [some IntKind.i64, some IntKind.i64, some IntKind.i64, some IntKind.i64] rs, ty := 37 }, some { row := Row.recs [some IntKind.i64, some IntKind.i64, some IntKind.i64, some IntKind.i64, some IntKind.i64, some IntKind.i64, some IntKind.i64, some IntKind.i64, some IntKind.i64, some IntKind.i64, some IntKind.i64, some IntKind.i64, some IntKind.i64, some IntKind.i64, some IntKind.i64] it, ty := 39 }, some { row := Row.lst [iv (List.getD (List.getD rs (0 + Int.toNat i) []) 0 0), iv (List.getD (List.getD rs (0 + Int.toNat i) []) (0 + 1) 0), iv (List.getD (List.getD rs (0 + Int.toNat i) []) (0 + 1 + 1) 0), iv (List.getD (List.getD rs (0 + Int.toNat i) []) (0 + 1 + 1 + 1) 0)], ty := 37 }, none, none, none, none, some { row := Row.lst [iv (PPT.S37.f0 (meetL (List.getD (List.getD rs (0 + Int.toNat i) []) 0 0) (List.getD (List.getD rs (0 + Int.toNat i) []) (0 + 1) 0) (List.getD (List.getD rs (0 + Int.toNat i) []) (0 + 1 + 1) 0) (List.getD (List.getD rs (0 + Int.toNat i) []) (0 + 1 + 1 + 1) 0) X Y (w6 (X + w6 (W * S))) (w6 (Y + w6 (H * S))))), iv (PPT.S37.f1 (meetL (List.getD (List.getD rs (0 + Int.toNat i) []) 0 0) (List.getD (List.getD rs (0 + Int.toNat i) []) (0 + 1) 0) (List.getD (List.getD rs (0 + Int.toNat i) []) (0 + 1 + 1) 0) (List.getD (List.getD rs (0 + Int.toNat i) []) (0 + 1 + 1 + 1) 0) X Y (w6 (X + w6 (W * S))) (w6 (Y + w6 (H * S))))), iv (PPT.S37.f2 (meetL (List.getD (List.getD rs (0 + Int.toNat i) []) 0 0) (List.getD (List.getD rs (0 + Int.toNat i) []) (0 + 1) 0) (List.getD (List.getD rs (0 + Int.toNat i) []) (0 + 1 + 1) 0) (List.getD (List.getD rs (0 + Int.toNat i) []) (0 + 1 + 1 + 1) 0) X Y (w6 (X + w6 (W * S))) (w6 (Y + w6 (H * S))))), iv (PPT.S37.f3 (meetL (List.getD (List.getD rs (0 + Int.toNat i) []) 0 0) (List.getD (List.getD rs (0 + Int.toNat i) []) (0 + 1) 0) (List.getD (List.getD rs (0 + Int.toNat i) []) (0 + 1 + 1) 0) (List.getD (List.getD rs (0 + Int.toNat i) []) (0 + 1 + 1 + 1) 0) X Y (w6 (X + w6 (W * S))) (w6 (Y + w6 (H * S)))))], ty := 37 }, none] else none else none else kk (XE.exit 0) [MV.ptr 0 0, u 1, u 2, u 3, u 4, u 5, u 6, iv t7, u 8, u 9, u 10, u 11, u 12, u 13, u 14, u 15, u 16, u 17, u 18, u 19, u 20, u 21, u 22, u 23, MV.va 4 0 len 4, iv (↑len : Int), iv i, MV.val (Value.bool false), u 28, u 29, u 30, u 31, u 32, u 33, u 34, u 35, u 36, u 37, u 38, u 39, u 40, u 41, u 42, u 43] [some { row := Row.lst [iv X, iv Y, iv S, iv W, iv H, MV.va 5 0 n 15, MV.va 1 0 nc 1], ty := 90 }, some { row := Row.recs [some IntKind.i64] cs, ty := 2 }, o2, o3, some { row := Row.recs [some IntKind.i64, some IntKind.i64, some IntKind.i64, some IntKind.i64] rs, ty := 37 }, some { row := Row.recs [some IntKind.i64, some IntKind.i64, some IntKind.i64, some IntKind.i64, some IntKind.i64, some IntKind.i64, some IntKind.i64, some IntKind.i64, some IntKind.i64, some IntKind.i64, some IntKind.i64, some IntKind.i64, some IntKind.i64, some IntKind.i64, some IntKind.i64] it, ty := 39 }] := by kernel_rfl
set_option maxRecDepth 100000 in
theorem s7 (u : Nat → MV) (t7 : Int) (len : Nat) (i : Int) (m : Mem) (kk : KE) : xcode Try.prog E A9 1 (cut c36 [1,1,1,1,1,1]) (SL u t7 len i) m kk =
  kk XE.ret [MV.ptr 0 0, u 1, u 2, u 3, iv t7, iv 0, u 6, iv t7, u 8, u 9, u 10, u 11, u 12, u 13, u 14, u 15, u 16, u 17, u 18, u 19, u 20, u 21, u 22, u 23, MV.va 4 0 len 4, iv (↑len : Int), iv i, u 27, u 28, u 29, u 30, u 31, u 32, u 33, u 34, u 35, u 36, u 37, u 38, u 39, u 40, u 41, u 42, iv t7] m := by kernel_rfl
end Go.Proofs.Ytppklhfiajjhmaa.Ti
end
section
namespace Go.Proofs.Ytppklhfiajjhmaa.Ti
open Go Go.RowKit Go.Proofs.Ytppklhfiajjhmaa.Y
set_option linter.unusedVariables false
set_option linter.unusedSimpArgs false
structure IsSH (tm : List MV) (n1 : Nat) (a6 : MV) : Prop where
 len : tm.length = 44
 h0 : tm[0]? = some (.ptr 0 0)
 h1 : tm[1]? = some (.va 3 0 n1 15)
 h6 : tm[6]? = some a6
theorem IsSH.eq {tm : List MV} {n1 : Nat} {a6 : MV} (h : IsSH tm n1 a6) : ∃ u, tm = SH u n1 a6 := by
 refine ⟨fun i => tm.getD i (.val undef), list_eq (p := [.ptr 0 0, .va 3 0 n1 15, _, _, _, _, a6]) h.len (by simp) (fun i hi => ?_)⟩
 match i, hi with
 | 0, _ => exact h.h0
 | 1, _ => exact h.h1
 | 2, _ => exact get_u h.len (by omega)
 | 3, _ => exact get_u h.len (by omega)
 | 4, _ => exact get_u h.len (by omega)
 | 5, _ => exact get_u h.len (by omega)
 | 6, _ => exact h.h6
structure IsSL (tm : List MV) (t7 : Int) (len : Nat) (i : Int) : Prop where
 ln : tm.length = 44
 h0 : tm[0]? = some (.ptr 0 0)
 h7 : tm[7]? = some (iv t7)
 h24 : tm[24]? = some (.va 4 0 len 4)
 h25 : tm[25]? = some (iv len)
 h26 : tm[26]? = some (iv i)
theorem IsSL.eq {tm : List MV} {t7 : Int} {len : Nat} {i : Int} (h : IsSL tm t7 len i) : ∃ u, tm = SL u t7 len i := by
 refine ⟨fun i => tm.getD i (.val undef), list_eq (p := [.ptr 0 0, _, _, _, _, _, _, iv t7, _, _, _, _, _, _, _, _, _, _, _, _, _, _, _, _, .va 4 0 len 4, iv len, iv i]) h.ln (by simp) (fun i hi => ?_)⟩
 match i, hi with
 | 0, _ => exact h.h0
 | 1, _ => exact get_u h.ln (by omega)
 | 2, _ => exact get_u h.ln (by omega)
 | 3, _ => exact get_u h.ln (by omega)
 | 4, _ => exact get_u h.ln (by omega)
 | 5, _ => exact get_u h.ln (by omega)
 | 6, _ => exact get_u h.ln (by omega)
 | 7, _ => exact h.h7
 | 8, _ => exact get_u h.ln (by omega)
 | 9, _ => exact get_u h.ln (by omega)
 | 10, _ => exact get_u h.ln (by omega)
 | 11, _ => exact get_u h.ln (by omega)
 | 12, _ => exact get_u h.ln (by omega)
 | 13, _ => exact get_u h.ln (by omega)
 | 14, _ => exact get_u h.ln (by omega)
 | 15, _ => exact get_u h.ln (by omega)
 | 16, _ => exact get_u h.ln (by omega)
 | 17, _ => exact get_u h.ln (by omega)
 | 18, _ => exact get_u h.ln (by omega)
 | 19, _ => exact get_u h.ln (by omega)
 | 20, _ => exact get_u h.ln (by omega)
 | 21, _ => exact get_u h.ln (by omega)
 | 22, _ => exact get_u h.ln (by omega)
 | 23, _ => exact get_u h.ln (by omega)
 | 24, _ => exact h.h24
 | 25, _ => exact h.h25
 | 26, _ => exact h.h26
 | i + 27, hi => exact absurd hi (by simp)
def qR (X Y S W H : Int) (r : List Int) : PPT.S37 := meetL (r.getD 0 0) (r.getD 1 0) (r.getD 2 0) (r.getD 3 0) X Y (w6 (X + w6 (W * S))) (w6 (Y + w6 (H * S)))
def showS (X Y S W H : Int) (it : List (List Int)) (st : List (List Int) × Int) (r : List Int) : List (List Int) × Int :=
 bif empL (qR X Y S W H r).f0 (qR X Y S W H r).f1 (qR X Y S W H r).f2 (qR X Y S W H r).f3 then st
 else (paintC X Y S W H it (qR X Y S W H r).f0 (qR X Y S W H r).f1 (qR X Y S W H r).f2 (qR X Y S W H r).f3 st.1, w6 (st.2 + paintN X Y S W H (qR X Y S W H r).f0 (qR X Y S W H r).f1 (qR X Y S W H r).f2 (qR X Y S W H r).f3))
def showR (X Y S W H : Int) (it : List (List Int)) (rs : List (List Int)) (st : List (List Int) × Int) : List (List Int) × Int := rs.foldl (showS X Y S W H it) st
theorem showS_len (X Y S W H : Int) (it : List (List Int)) (st : List (List Int) × Int) (r : List Int) : (showS X Y S W H it st r).1.length = st.1.length := by
 unfold showS
 cases empL (qR X Y S W H r).f0 (qR X Y S W H r).f1 (qR X Y S W H r).f2 (qR X Y S W H r).f3 with
 | true => rfl
 | false => exact paintC_len _ _ _ _ _ _ _ _ _ _ _
theorem showR_len (X Y S W H : Int) (it : List (List Int)) (rs : List (List Int)) : ∀ st : List (List Int) × Int, (showR X Y S W H it rs st).1.length = st.1.length := by
 induction rs with
 | nil => intro st; rfl
 | cons r rs ih => intro st; exact (ih _).trans (showS_len _ _ _ _ _ _ _ _)
section
variable (X Y S W H : Int) (n nc : Nat) (cs it rs old new : List (List Int))
def ML (cs : List (List Int)) : Mem := MS X Y S W H 5 n nc cs [some ⟨.rrecs (i64s 15) old, 39⟩, some ⟨.rrecs (i64s 15) new, 39⟩, some ⟨.recs (i64s 4) rs, 37⟩, some ⟨.recs (i64s 15) it, 39⟩]
theorem ML_inb (U : Nat → Bool) (h1 : U 1 = true) (h5 : U 5 = true) : ∀ (b : Nat) (k : Blk), (ML X Y S W H n nc it rs old new cs)[b]? = some (some k) → inbL U k.cells = true := by
 intro b k hk
 match b, hk with
 | 0, hk =>
  have e : k = Bd X Y S W H 5 n nc := by injection hk with hk; injection hk with hk; exact hk.symm
  subst e
  show (true && _) = true
  simp [inbL, inb, h1, h5]
 | 1, hk =>
  have e : k = ⟨.recs (i64s 1) cs, 2⟩ := by injection hk with hk; injection hk with hk; exact hk.symm
  subst e
  exact inb_recs _ _ _
 | 2, hk =>
  have e : k = ⟨.rrecs (i64s 15) old, 39⟩ := by injection hk with hk; injection hk with hk; exact hk.symm
  subst e
  exact inb_recs _ _ _
 | 3, hk =>
  have e : k = ⟨.rrecs (i64s 15) new, 39⟩ := by injection hk with hk; injection hk with hk; exact hk.symm
  subst e
  exact inb_recs _ _ _
 | 4, hk =>
  have e : k = ⟨.recs (i64s 4) rs, 37⟩ := by injection hk with hk; injection hk with hk; exact hk.symm
  subst e
  exact inb_recs _ _ _
 | 5, hk =>
  have e : k = ⟨.recs (i64s 15) it, 39⟩ := by injection hk with hk; injection hk with hk; exact hk.symm
  subst e
  exact inb_recs _ _ _
 | b + 6, hk => simp [ML, MS] at hk
theorem round (u : Nat → MV) (t7 : Int) (len : Nat) (i : Int) (hlen : rs.length = len) (h0 : 0 ≤ i) (hi : i < len) (hbig : len ≤ 1000000)
  (hok : empL (qR X Y S W H (rs.getD i.toNat [])).f0 (qR X Y S W H (rs.getD i.toNat [])).f1 (qR X Y S W H (rs.getD i.toNat [])).f2 (qR X Y S W H (rs.getD i.toNat [])).f3 = false →
   paintOk X Y S W H n nc cs it (qR X Y S W H (rs.getD i.toNat [])).f0 (qR X Y S W H (rs.getD i.toNat [])).f1 (qR X Y S W H (rs.getD i.toNat [])).f2 (qR X Y S W H (rs.getD i.toNat [])).f3 = true) :
  ∃ tm' junk, IsSL tm' (showS X Y S W H it (cs, t7) (rs.getD i.toNat [])).2 len (i + 1) ∧ ∀ kk : KE, xcode Try.prog E A9 1 (cut c36 [1,1,1,1,1,0,1,0,0]) (SL u t7 len i) (ML X Y S W H n nc it rs old new cs) kk =
   kk .normal tm' (ML X Y S W H n nc it rs old new (showS X Y S W H it (cs, t7) (rs.getD i.toNat [])).1 ++ junk) := by
 have c1 : decide (i < (len : Int)) = true := decide_eq_true hi
 have c2 : decide (0 ≤ i ∧ i < (len : Int)) = true := decide_eq_true ⟨h0, hi⟩
 have c3 : decide (i.toNat < rs.length) = true := decide_eq_true (by omega)
 have c4 : IntKind.wrap IntKind.i64 (i + 1) = i + 1 := w6_id (by omega) (by omega)
 generalize hr : rs.getD i.toNat [] = r at *
 cases he : empL (qR X Y S W H r).f0 (qR X Y S W H r).f1 (qR X Y S W H r).f2 (qR X Y S W H r).f3 with
 | false =>
  have hp := hok he
  have e1 : showS X Y S W H it (cs, t7) r = (paintC X Y S W H it (qR X Y S W H r).f0 (qR X Y S W H r).f1 (qR X Y S W H r).f2 (qR X Y S W H r).f3 cs, w6 (t7 + paintN X Y S W H (qR X Y S W H r).f0 (qR X Y S W H r).f1 (qR X Y S W H r).f2 (qR X Y S W H r).f3)) := by
   unfold showS; rw [he]; rfl
  rw [e1]
  unfold qR at he hp ⊢
  apply Exists.intro
  apply Exists.intro
  refine (fun {p q : Prop} (h : q ∧ p) => (⟨h.2, h.1⟩ : p ∧ q)) ⟨fun kk => ?_, ?_⟩
  ·unfold ML
   rw [s6]
   simp only [Nat.zero_add, Nat.reduceAdd, hr, c1, c2, c3, c4, he, hp, cond_true, cond_false, Bool.not_false]
   rfl
  ·exact ⟨rfl, rfl, rfl, rfl, rfl, rfl⟩
 | true =>
  have e1 : showS X Y S W H it (cs, t7) r = (cs, t7) := by
   unfold showS; rw [he]; rfl
  rw [e1]
  unfold qR at he
  apply Exists.intro
  apply Exists.intro
  refine (fun {p q : Prop} (h : q ∧ p) => (⟨h.2, h.1⟩ : p ∧ q)) ⟨fun kk => ?_, ?_⟩
  ·unfold ML
   rw [s6]
   simp only [Nat.zero_add, Nat.reduceAdd, hr, c1, c2, c3, c4, he, cond_true, cond_false, Bool.not_true]
   rfl
  ·exact ⟨rfl, rfl, rfl, rfl, rfl, rfl⟩
end
end Go.Proofs.Ytppklhfiajjhmaa.Ti
end
section
namespace Go.Proofs.Ytppklhfiajjhmaa.Ti
open Go Go.RowKit Go.Proofs.Ytppklhfiajjhmaa.Y
set_option linter.unusedVariables false
set_option linter.unusedSimpArgs false
section
variable (X Y S W H : Int) (n nc : Nat) (cs it rs old new : List (List Int))
def kL : Nat → Bool := fun i => i == 0 || i == 7 || i == 24 || i == 25 || i == 26
theorem show_loop (len : Nat) (hlen : rs.length = len) (hbig : len ≤ 1000000) (hcs : cs.length = nc)
  (hok : ∀ r ∈ rs, ∀ cs : List (List Int), cs.length = nc → empL (qR X Y S W H r).f0 (qR X Y S W H r).f1 (qR X Y S W H r).f2 (qR X Y S W H r).f3 = false →
   paintOk X Y S W H n nc cs it (qR X Y S W H r).f0 (qR X Y S W H r).f1 (qR X Y S W H r).f2 (qR X Y S W H r).f3 = true) {tm : List MV} (h : IsSL tm 0 len 0) :
  XN Try.prog A9.env 4 (cut c36 [1,1,1,1,1,0,1,0]) tm (ML X Y S W H n nc it rs old new cs) (fun e tm' m' => e = .exit 0 ∧ IsSL tm' (showR X Y S W H it rs (cs, 0)).2 len len ∧ ∃ junk, m' = ML X Y S W H n nc it rs old new (showR X Y S W H it rs (cs, 0)).1 ++ junk) := by
 have e : cut c36 [1,1,1,1,1,0,1,0] = .loop (cut c36 [1,1,1,1,1,0,1,0,0]) := by kernel_rfl
 refine XN.cast e ?_
 refine XN.loop (fun j tm m => ∃ (i : Int) (cs' : List (List Int)) (t7 : Int) (junk : Mem), IsSL tm t7 len i ∧ m = ML X Y S W H n nc it rs old new cs' ++ junk ∧ 0 ≤ i ∧ i ≤ len ∧ cs'.length = nc ∧ j = (len - i).toNat ∧
  showR X Y S W H it (rs.drop i.toNat) (cs', t7) = showR X Y S W H it rs (cs, 0)) ?_ (j := ((len : Int) - 0).toNat) ⟨0, cs, 0, [], h, by simp, Int.le_refl _, by omega, hcs, rfl, rfl⟩
 rintro j tm m ⟨i, cs', t7, junk, g1, rfl, g2, g3, g4, rfl, g5⟩
 refine XN.drop (K := kL) (by simp [ML, MS]) ?_ ?_ ?_
 ·intro k x hk hx
  unfold kL at hk
  simp only [Bool.or_eq_true, beq_iff_eq] at hk
  rcases hk with (((rfl | rfl) | rfl) | rfl) | rfl
  ·rw [g1.h0] at hx; cases hx; rfl
  ·rw [g1.h7] at hx; cases hx; rfl
  ·rw [g1.h24] at hx; cases hx; simp [inb, ML, MS]
  ·rw [g1.h25] at hx; cases hx; rfl
  ·rw [g1.h26] at hx; cases hx; rfl
 ·exact ML_inb X Y S W H n nc cs' it rs old new _ rfl rfl
 intro tm' hl hk
 have g1' : IsSL tm' t7 len i := ⟨hl.trans g1.ln, (hk 0 rfl).trans g1.h0, (hk 7 rfl).trans g1.h7, (hk 24 rfl).trans g1.h24, (hk 25 rfl).trans g1.h25, (hk 26 rfl).trans g1.h26⟩
 obtain ⟨u, rfl⟩ := g1'.eq
 by_cases hlt : i < len
 ·have hil : i.toNat < rs.length := by omega
  have hmem : rs.getD i.toNat [] ∈ rs := by
   rw [List.getD_eq_getElem?_getD, List.getElem?_eq_getElem hil]
   exact List.getElem_mem hil
  obtain ⟨tm2, junk2, t1, t2⟩ := round X Y S W H n nc cs' it rs old new u t7 len i hlen g2 hlt hbig (hok _ hmem cs' g4)
  refine XN.of_x E_ok A9_ok mixed t2 ?_
  refine ⟨((len : Int) - (i + 1)).toNat, by omega, i + 1, _, _, junk2, t1, rfl, by omega, by omega, by rw [showS_len]; exact g4, rfl, ?_⟩
  rw [← g5]
  have ed : rs.drop i.toNat = rs.getD i.toNat [] :: rs.drop (i + 1).toNat := by
   rw [List.drop_eq_getElem_cons hil]
   congr 1
   ·rw [List.getD_eq_getElem?_getD, List.getElem?_eq_getElem hil]; rfl
   ·congr 1; omega
  rw [ed]
  rfl
 ·have c1 : decide (i < (len : Int)) = false := decide_eq_false hlt
  have hi : i = len := by omega
  subst hi
  have hx : ∀ kk : KE, xcode Try.prog E A9 1 (cut c36 [1,1,1,1,1,0,1,0,0]) (SL u t7 len len) (ML X Y S W H n nc it rs old new cs') kk = kk (.exit 0) (SL u t7 len len |>.set 27 (.val (.bool false))) (ML X Y S W H n nc it rs old new cs') := by
   intro kk
   unfold ML
   rw [s6]
   simp only [c1, cond_false]
   rfl
  refine XN.of_x E_ok A9_ok mixed hx ?_
  have e2 : rs.drop ((len : Int)).toNat = [] := List.drop_eq_nil_of_le (by omega)
  rw [e2] at g5
  have e3 : (cs', t7) = showR X Y S W H it rs (cs, 0) := g5
  rw [← e3]
  exact ⟨rfl, ⟨rfl, rfl, rfl, rfl, rfl, rfl⟩, [], by simp⟩
def MS0 (n0 : Nat) : Mem := MS X Y S W H 2 n0 nc cs [some ⟨.rrecs (i64s 15) old, 39⟩, some ⟨.rrecs (i64s 15) new, 39⟩]
theorem c36_eq : c36 = .seq (cut c36 [0]) (.seq (cut c36 [1,0]) (.seq (cut c36 [1,1,0]) (.seq (cut c36 [1,1,1,0]) (.seq (cut c36 [1,1,1,1,0]) (.seq (.seq (cut c36 [1,1,1,1,1,0,0]) (.block 0 (cut c36 [1,1,1,1,1,0,1,0]))) (cut c36 [1,1,1,1,1,1])))))) := by kernel_rfl
end
set_option maxRecDepth 100000 in
theorem s5 (u : Nat → MV) (n1 : Nat) (rs : List (List Int)) (X Y S W H : Int) (n nc : Nat) (cs it : List (List Int)) (o2 o3 o4 : Option Blk) (kk : KE) : xcode Try.prog E A9 1 (cut c36 [1,1,1,1,1,0,0]) ((SH u n1 (.va 4 0 rs.length 4)).set 7 (iv 0)) (MS X Y S W H 5 n nc cs [o2, o3, o4, some ⟨.recs (i64s 15) it, 39⟩]) kk =
  kk XE.normal [MV.ptr 0 0, MV.va 3 0 n1 15, u 2, u 3, u 4, u 5, MV.va 4 0 (List.length rs) 4, iv 0, u 8, u 9, u 10, u 11, u 12, u 13, u 14, u 15, u 16, u 17, u 18, u 19, u 20, u 21, u 22, u 23, MV.va 4 0 (List.length rs) 4, iv (↑(List.length rs) : Int), iv 0, u 27, u 28, u 29, u 30, u 31, u 32, u 33, u 34, u 35, u 36, u 37, u 38, u 39, u 40, u 41, u 42, u 43] [some { row := Row.lst [iv X, iv Y, iv S, iv W, iv H, MV.va 5 0 n 15, MV.va 1 0 nc 1], ty := 90 }, some { row := Row.recs [some IntKind.i64] cs, ty := 2 }, o2, o3, o4, some { row := Row.recs [some IntKind.i64, some IntKind.i64, some IntKind.i64, some IntKind.i64, some IntKind.i64, some IntKind.i64, some IntKind.i64, some IntKind.i64, some IntKind.i64, some IntKind.i64, some IntKind.i64, some IntKind.i64, some IntKind.i64, some IntKind.i64, some IntKind.i64] it, ty := 39 }] := by kernel_rfl
section
variable (X Y S W H : Int) (nc : Nat) (cs old new : List (List Int))
theorem show_x (n0 n1 : Nat) (h0 : old.length = n0) (h1 : new.length = n1) (hs : old.length + new.length ≤ 90) (hcs : cs.length = nc) (hbig : (harmL old new).length ≤ 1000000)
  (hok : ∀ r ∈ harmL old new, ∀ cs : List (List Int), cs.length = nc → empL (qR X Y S W H r).f0 (qR X Y S W H r).f1 (qR X Y S W H r).f2 (qR X Y S W H r).f3 = false →
   paintOk X Y S W H n1 nc cs new (qR X Y S W H r).f0 (qR X Y S W H r).f1 (qR X Y S W H r).f2 (qR X Y S W H r).f3 = true) :
  XF Try.prog A9.env 36 [.ptr 0 0, .va 3 0 n1 15] (MS0 X Y S W H nc cs old new n0) (fun v m' =>
   v = .tup [iv (showR X Y S W H new (harmL old new) (cs, 0)).2, iv 0] ∧ m' = ML X Y S W H n1 nc new (harmL old new) old new (showR X Y S W H new (harmL old new) (cs, 0)).1) := by
 subst h1
 have c1 : (old.length == n0) = true := by simp [h0]
 have c2 : (new.length == new.length) = true := by simp
 have c3 : decide (old.length + new.length ≤ 90) = true := decide_eq_true hs
 have c4 : decide (new.length ≤ 1000000) = true := decide_eq_true (by omega)
 refine XF.forget (XF.of_codeN Try.func36 (c := c36) (by kernel_rfl) ?_)
 refine XN.cast c36_eq ?_
 -- the beginning
 obtain ⟨tm0, a1, a2⟩ : ∃ tm', IsSH tm' new.length (.val undef) ∧ ∀ kk : KE, xcode Try.prog E A9 1 (cut c36 [0]) ([.ptr 0 0, .va 3 0 new.length 15] ++ List.replicate 42 (.val undef)) (MS0 X Y S W H nc cs old new n0) kk = kk .normal tm' (MS0 X Y S W H nc cs old new n0) := by
  refine And_swap ?_
  apply Exists.intro
  refine ⟨fun kk => ?_, ?_⟩
  ·rw [s0]
  ·exact ⟨rfl, rfl, rfl, rfl⟩
 refine XN.seq_x E_ok A9_ok mixed a2 ?_
 obtain ⟨u0, rfl⟩ := a1.eq
 obtain ⟨tm1, b1, b2⟩ : ∃ tm', IsSH tm' new.length (.val undef) ∧ ∀ kk : KE, xcode Try.prog E A9 1 (cut c36 [1,0]) (SH u0 new.length (.val undef)) (MS0 X Y S W H nc cs old new n0) kk = kk .normal tm' (MS0 X Y S W H nc cs old new n0) := by
  refine And_swap ?_
  apply Exists.intro
  refine ⟨fun kk => ?_, ?_⟩
  ·rw [s1]
  ·exact ⟨rfl, rfl, rfl, rfl⟩
 refine XN.seq_x E_ok A9_ok mixed b2 ?_
 obtain ⟨u1, rfl⟩ := b1.eq
 obtain ⟨tm2, d1, d2⟩ : ∃ tm', IsSH tm' new.length (.va 4 0 (harmL old new).length 4) ∧ ∀ kk : KE, xcode Try.prog E A9 1 (cut c36 [1,1,0]) (SH u1 new.length (.val undef)) (MS0 X Y S W H nc cs old new n0) kk =
   kk .normal tm' (MS X Y S W H 2 n0 nc cs [some ⟨.rrecs (i64s 15) old, 39⟩, some ⟨.rrecs (i64s 15) new, 39⟩, some ⟨.recs (i64s 4) (harmL old new), 37⟩]) := by
  refine And_swap ?_
  apply Exists.intro
  refine ⟨fun kk => ?_, ?_⟩
  ·unfold MS0
   rw [s2]
   simp only [c1, c2, c3, cond_true]
   rfl
  ·exact ⟨rfl, rfl, rfl, rfl⟩
 refine XN.seq_x E_ok A9_ok mixed d2 ?_
 obtain ⟨u2, rfl⟩ := d1.eq
 obtain ⟨tm3, f1, f2⟩ : ∃ tm', IsSH tm' new.length (.va 4 0 (harmL old new).length 4) ∧ ∀ kk : KE, xcode Try.prog E A9 1 (cut c36 [1,1,1,0]) (SH u2 new.length (.va 4 0 (harmL old new).length 4)) (MS X Y S W H 2 n0 nc cs [some ⟨.rrecs (i64s 15) old, 39⟩, some ⟨.rrecs (i64s 15) new, 39⟩, some ⟨.recs (i64s 4) (harmL old new), 37⟩]) kk =
   kk .normal tm' (ML X Y S W H new.length nc new (harmL old new) old new cs) := by
  refine And_swap ?_
  apply Exists.intro
  refine ⟨fun kk => ?_, ?_⟩
  ·rw [s3]
   simp only [c2, c4, cond_true]
   rfl
  ·exact ⟨rfl, rfl, rfl, rfl⟩
 refine XN.seq_x E_ok A9_ok mixed f2 ?_
 obtain ⟨u3, rfl⟩ := f1.eq
 have k2 : ∀ kk : KE, xcode Try.prog E A9 1 (cut c36 [1,1,1,1,0]) (SH u3 new.length (.va 4 0 (harmL old new).length 4)) (ML X Y S W H new.length nc new (harmL old new) old new cs) kk = kk .normal ((SH u3 new.length (.va 4 0 (harmL old new).length 4)).set 7 (iv 0)) (ML X Y S W H new.length nc new (harmL old new) old new cs) := by
  intro kk
  rw [s4]
  rfl
 refine XN.seq_x E_ok A9_ok mixed k2 ?_
 refine XN.seq ?_
 obtain ⟨tm5, l1, l2⟩ : ∃ tm', IsSL tm' 0 (harmL old new).length 0 ∧ ∀ kk : KE, xcode Try.prog E A9 1 (cut c36 [1,1,1,1,1,0,0]) ((SH u3 new.length (.va 4 0 (harmL old new).length 4)).set 7 (iv 0)) (ML X Y S W H new.length nc new (harmL old new) old new cs) kk = kk .normal tm' (ML X Y S W H new.length nc new (harmL old new) old new cs) := by
  refine And_swap ?_
  apply Exists.intro
  refine ⟨fun kk => ?_, ?_⟩
  ·unfold ML
   rw [s5]
   rfl
  ·exact ⟨rfl, rfl, rfl, rfl, rfl, rfl⟩
 refine XN.seq_x E_ok A9_ok mixed l2 ?_
 refine XN.block ?_
 have hl := show_loop X Y S W H new.length nc cs new (harmL old new) old new _ rfl hbig hcs hok l1
 refine XN.mono hl ?_
 rintro e tm6 m6 ⟨rfl, g1, junk, rfl⟩
 simp only [if_true]
 obtain ⟨u6, rfl⟩ := g1.eq
 obtain ⟨tm7, p1, p2⟩ : ∃ tm', (∀ m : Mem, xres Try.prog tm' m Try.f36.results.toList = some [iv (showR X Y S W H new (harmL old new) (cs, 0)).2, iv 0]) ∧ ∀ kk : KE, xcode Try.prog E A9 1 (cut c36 [1,1,1,1,1,1]) (SL u6 (showR X Y S W H new (harmL old new) (cs, 0)).2 (harmL old new).length (harmL old new).length) (ML X Y S W H new.length nc new (harmL old new) old new (showR X Y S W H new (harmL old new) (cs, 0)).1 ++ junk) kk = kk .ret tm' (ML X Y S W H new.length nc new (harmL old new) old new (showR X Y S W H new (harmL old new) (cs, 0)).1 ++ junk) := by
  refine And_swap ?_
  apply Exists.intro
  refine ⟨fun kk => ?_, ?_⟩
  ·rw [s7]
  ·intro m; rfl
 refine XN.of_x E_ok A9_ok mixed p2 ?_
 exact ⟨_, p1 _, _, junk, rfl, by simp [ML, MS, MS0], rfl, ML_inb X Y S W H new.length nc _ new (harmL old new) old new _ (by simp [ML, MS]) (by simp [ML, MS]), rfl, rfl⟩
end
end Go.Proofs.Ytppklhfiajjhmaa.Ti
end
section
namespace Go.Proofs.Ytppklhfiajjhmaa.Ti
open Go Go.RowKit Go.Proofs.Ytppklhfiajjhmaa.Y Go.Proofs.Ytppklhfiajjhmaa.PPT
set_option linter.unusedVariables false
set_option linter.unusedSimpArgs false
theorem colC_eq (it : List (List Int)) (x y : Int) : colC it x y = Pure.colr (it.map dec39) x y := by
 unfold colC Pure.colr ownB ownN
 cases h : Pure.ownr (it.map dec39) x y with
 | none => rfl
 | some m =>
  have hm := Pure.ownr_lt h
  rw [List.length_map] at hm
  simp only [Option.isSome_some, cond_true, Int.toNat_natCast]
  rw [List.getD_eq_getElem?_getD (l := it.map dec39), List.getElem?_map, List.getD_eq_getElem?_getD (l := it), List.getElem?_eq_getElem hm]
  rfl
theorem ix_inj {W r c r' c' : Nat} (hc : c < W) (hc' : c' < W) (h : r * W + c = r' * W + c') : r = r' ∧ c = c' := by
 have h1 : (r * W + c) / W = r := by rw [Nat.mul_comm, Nat.mul_add_div (by omega), Nat.div_eq_of_lt hc, Nat.add_zero]
 have h2 : (r' * W + c') / W = r' := by rw [Nat.mul_comm, Nat.mul_add_div (by omega), Nat.div_eq_of_lt hc', Nat.add_zero]
 have h3 : (r * W + c) % W = c := by rw [Nat.mul_comm, Nat.mul_add_mod, Nat.mod_eq_of_lt hc]
 have h4 : (r' * W + c') % W = c' := by rw [Nat.mul_comm, Nat.mul_add_mod, Nat.mod_eq_of_lt hc']
 rw [h] at h1 h3
 exact ⟨h1.symm.trans h2, h3.symm.trans h4⟩
theorem toNat_ix {row W : Nat} {k : Int} (hk : 0 ≤ k) : ((row : Int) * (W : Int) + k).toNat = row * W + k.toNat := by
 have : (row : Int) * (W : Int) = ((row * W : Nat) : Int) := by push_cast; rfl
 rw [this]; omega
theorem rowP_get (it : List (List Int)) (X Y S : Int) (W row : Nat) (j : Nat) : ∀ (d : Nat) (k : Int) (cs : List (List Int)), 0 ≤ k → j < cs.length →
  (rowP it X Y S W row d k cs)[j]? = if row * W + k.toNat ≤ j ∧ j < row * W + k.toNat + d then some [colC it (w6 (X + w6 ((((j - row * W : Nat)) : Int) * S))) (w6 (Y + w6 ((row : Int) * S)))] else cs[j]?
 | 0, k, cs, hk, hj => by
  rw [rowP, if_neg (by omega)]
 | d + 1, k, cs, hk, hj => by
  rw [rowP, rowP_get it X Y S W row j d (k + 1) _ (by omega) (by simpa using hj), toNat_ix hk]
  have e1 : (k + 1).toNat = k.toNat + 1 := by omega
  rw [e1]
  by_cases h1 : row * W + (k.toNat + 1) ≤ j ∧ j < row * W + (k.toNat + 1) + d
  ·rw [if_pos h1, if_pos (by omega)]
  ·rw [if_neg h1]
   by_cases h2 : j = row * W + k.toNat
   ·subst h2
    rw [if_pos (by omega), List.getElem?_set_self hj]
    have : ((row * W + k.toNat - row * W : Nat) : Int) = k := by omega
    rw [this]
   ·rw [if_neg (by omega), List.getElem?_set_ne (fun e => h2 e.symm)]
theorem gridP_get (it : List (List Int)) (X Y S : Int) (W : Nat) (left right : Int) (hl : 0 ≤ left) (hr : right ≤ W) (r c : Nat) (hc : c < W) : ∀ (d : Nat) (row : Nat) (cs : List (List Int)), r * W + c < cs.length →
  (gridP it X Y S W left right d row cs)[r * W + c]? = if row ≤ r ∧ r < row + d ∧ left ≤ c ∧ (c : Int) < right then some [colC it (w6 (X + w6 ((c : Int) * S))) (w6 (Y + w6 ((r : Int) * S)))] else cs[r * W + c]?
 | 0, row, cs, hj => by rw [gridP, if_neg (by omega)]
 | d + 1, row, cs, hj => by
  have e1 : (row : Int) + 1 = ((row + 1 : Nat) : Int) := by omega
  rw [gridP, e1, gridP_get it X Y S W left right hl hr r c hc d (row + 1) _ (by rw [rowP_len]; exact hj), rowP_get it X Y S W row (r * W + c) _ left cs hl hj]
  by_cases h1 : row + 1 ≤ r ∧ r < row + 1 + d ∧ left ≤ c ∧ (c : Int) < right
  ·rw [if_pos h1, if_pos (by omega)]
  ·rw [if_neg h1]
   by_cases h2 : r = row ∧ left ≤ c ∧ (c : Int) < right
   ·obtain ⟨rfl, h3, h4⟩ := h2
    rw [if_pos (by omega), if_pos (by omega)]
    have : r * W + c - r * W = c := by omega
    rw [this]
   ·rw [if_neg, if_neg (by omega)]
    rintro ⟨a, b⟩
    have e : r * W + c = row * W + (r * W + c - row * W) := by omega
    obtain ⟨e1, e2⟩ := ix_inj hc (by omega) e
    subst e1
    omega
theorem firstI_le {fr x S : Int} {c : Nat} (hS : 1 ≤ S) (hS2 : S ≤ 1099511627776) (hfr : -1099511627776 ≤ fr ∧ fr ≤ 1099511627776) (hx : x ≤ fr + 4503599627370496) : 0 ≤ firstI fr x S ∧ (firstI fr x S ≤ c ↔ x ≤ fr + c * S) := by
 unfold firstI
 have hcS : 0 ≤ (c : Int) * S := Int.mul_nonneg (by omega) (by omega)
 by_cases h : x ≤ fr
 ·rw [decide_eq_true h]
  simp only [cond_true]
  exact ⟨Int.le_refl _, by constructor <;> intro _ <;> omega⟩
 ·rw [decide_eq_false h]
  simp only [cond_false]
  have w1 : IntKind.wrap .i64 (x - fr) = x - fr := w6_id (by omega) (by omega)
  have w2 : IntKind.wrap .i64 (x - fr + S) = x - fr + S := w6_id (by omega) (by omega)
  have w3 : IntKind.wrap .i64 (x - fr + S - 1) = x - fr + S - 1 := w6_id (by omega) (by omega)
  rw [w1, w2, w3, Int.tdiv_eq_ediv_of_nonneg (by omega)]
  have q0 : 0 ≤ (x - fr + S - 1) / S := Int.ediv_nonneg (by omega) (by omega)
  have q1 : (x - fr + S - 1) / S ≤ x - fr + S - 1 := Int.ediv_le_self _ (by omega)
  rw [show IntKind.wrap IntKind.i64 ((x - fr + S - 1) / S) = (x - fr + S - 1) / S from w6_id (by omega) (by omega)]
  refine ⟨q0, ?_⟩
  constructor
  ·intro h1
   have h2 : (x - fr + S - 1) / S < (c : Int) + 1 := by omega
   have h3 := (Int.ediv_lt_iff_lt_mul (show (0 : Int) < S by omega)).1 h2
   rw [Int.add_mul, Int.one_mul] at h3
   omega
  ·intro h1
   have h2 : (x - fr + S - 1) / S < (c : Int) + 1 := (Int.ediv_lt_iff_lt_mul (show (0 : Int) < S by omega)).2 (by rw [Int.add_mul, Int.one_mul]; omega)
   omega
theorem lo_ok {fr x0 x1 S : Int} {W c : Nat} (hS : 1 ≤ S) (hS2 : S ≤ 1099511627776) (hfr : -1099511627776 ≤ fr ∧ fr ≤ 1099511627776) (h0 : x0 ≤ fr + 4503599627370496) (h1 : x1 ≤ fr + 4503599627370496) (hc : c < W) :
  (loI fr x0 S W ≤ c ∧ (c : Int) < hiI fr x0 x1 S W) ↔ (x0 ≤ fr + c * S ∧ fr + c * S < x1) := by
 obtain ⟨a1, a2⟩ := firstI_le (c := c) hS hS2 hfr h0
 obtain ⟨b1, b2⟩ := firstI_le (c := c) hS hS2 hfr h1
 unfold loI hiI minI maxI
 have b3 : ¬ (firstI fr x1 S ≤ c) ↔ fr + c * S < x1 := by rw [b2]; omega
 rw [← a2, ← b3]
 constructor
 ·rintro ⟨g1, g2⟩
  repeat' split at g1
  all_goals repeat' split at g2
  all_goals constructor <;> omega
 ·rintro ⟨g1, g2⟩
  constructor
  ·split <;> omega
  ·repeat' split
   all_goals omega
theorem lo_nn {fr x0 S : Int} {W : Nat} (hS : 1 ≤ S) (hS2 : S ≤ 1099511627776) (hfr : -1099511627776 ≤ fr ∧ fr ≤ 1099511627776) (h0 : x0 ≤ fr + 4503599627370496) : 0 ≤ loI fr x0 S W := by
 obtain ⟨a1, _⟩ := firstI_le (c := 0) hS hS2 hfr h0
 unfold loI minI
 split <;> omega
theorem grid_mul {c W : Nat} {S : Int} (hc : c ≤ W) (hS : 1 ≤ S) (hS2 : S ≤ 1099511627776) (hW : W ≤ 4096) : 0 ≤ (c : Int) * S ∧ (c : Int) * S ≤ (W : Int) * S ∧ (W : Int) * S ≤ 4503599627370496 := by
 refine ⟨Int.mul_nonneg (by omega) (by omega), Int.mul_le_mul_of_nonneg_right (by omega) (by omega), ?_⟩
 have h1 : (W : Int) * S ≤ 4096 * S := Int.mul_le_mul_of_nonneg_right (by omega) (by omega)
 omega
section
variable {X Y S : Int} {W H : Nat} (hG : Pure.okG X Y S (W : Int) (H : Int))
include hG
theorem all_eq : w6 (X + w6 ((W : Int) * S)) = X + W * S ∧ w6 (Y + w6 ((H : Int) * S)) = Y + H * S := by
 obtain ⟨g1, g2, g3, g4, g5, g6, g7, g8, g9, g10, g11⟩ := hG
 have h1 := grid_mul (c := 0) (W := W) (by omega) g6 g7 (by omega)
 have h2 := grid_mul (c := 0) (W := H) (by omega) g6 g7 (by omega)
 constructor
 ·rw [w6_id (n := (W : Int) * S) (by omega) (by omega), w6_id (by omega) (by omega)]
 ·rw [w6_id (n := (H : Int) * S) (by omega) (by omega), w6_id (by omega) (by omega)]
theorem pt_eq {c r : Nat} (hc : c < W) (hr : r < H) : w6 (X + w6 ((c : Int) * S)) = X + c * S ∧ w6 (Y + w6 ((r : Int) * S)) = Y + r * S := by
 obtain ⟨g1, g2, g3, g4, g5, g6, g7, g8, g9, g10, g11⟩ := hG
 have h1 := grid_mul (c := c) (W := W) (by omega) g6 g7 (by omega)
 have h2 := grid_mul (c := r) (W := H) (by omega) g6 g7 (by omega)
 constructor
 ·rw [w6_id (n := (c : Int) * S) (by omega) (by omega), w6_id (by omega) (by omega)]
 ·rw [w6_id (n := (r : Int) * S) (by omega) (by omega), w6_id (by omega) (by omega)]
theorem q_in {q : List Int} : X ≤ (qR X Y S W H q).f0 ∧ Y ≤ (qR X Y S W H q).f1 ∧ (qR X Y S W H q).f2 ≤ X + W * S ∧ (qR X Y S W H q).f3 ≤ Y + H * S ∨ Pure.emp (qR X Y S W H q) := by
 by_cases he : Pure.emp (qR X Y S W H q)
 ·exact .inr he
 ·left
  obtain ⟨e1, e2⟩ := all_eq hG
  have hh : ∀ x y, Pure.has (qR X Y S W H q) x y → X ≤ x ∧ Y ≤ y ∧ x < X + W * S ∧ y < Y + H * S := by
   intro x y h
   unfold qR meetL at h
   rw [e1, e2] at h
   have h2 := ((Pure.has_meet _ _ _ _).1 h).2
   unfold Pure.has at h2
   simp only at h2
   omega
  have hE : (qR X Y S W H q).f0 < (qR X Y S W H q).f2 ∧ (qR X Y S W H q).f1 < (qR X Y S W H q).f3 := by unfold Pure.emp at he; omega
  have h1 := hh _ _ (show Pure.has (qR X Y S W H q) (qR X Y S W H q).f0 (qR X Y S W H q).f1 from ⟨by omega, by omega, by omega, by omega⟩)
  have h2 := hh _ _ (show Pure.has (qR X Y S W H q) ((qR X Y S W H q).f2 - 1) ((qR X Y S W H q).f3 - 1) from ⟨by omega, by omega, by omega, by omega⟩)
  omega
theorem q_has {q : List Int} {c r : Nat} (hc : c < W) (hr : r < H) : Pure.has (qR X Y S W H q) (X + c * S) (Y + r * S) ↔ Pure.has (rI q) (X + c * S) (Y + r * S) := by
 obtain ⟨e1, e2⟩ := all_eq hG
 obtain ⟨g1, g2, g3, g4, g5, g6, g7, g8, g9, g10, g11⟩ := hG
 unfold qR meetL
 rw [e1, e2, Pure.has_meet]
 have h1 : (c : Int) * S + S ≤ W * S := by
  have := Int.mul_le_mul_of_nonneg_right (show (c : Int) + 1 ≤ W by omega) (show 0 ≤ S by omega)
  rw [Int.add_mul, Int.one_mul] at this; exact this
 have h2 : (r : Int) * S + S ≤ H * S := by
  have := Int.mul_le_mul_of_nonneg_right (show (r : Int) + 1 ≤ H by omega) (show 0 ≤ S by omega)
  rw [Int.add_mul, Int.one_mul] at this; exact this
 have h3 : 0 ≤ (c : Int) * S := Int.mul_nonneg (by omega) (by omega)
 have h4 : 0 ≤ (r : Int) * S := Int.mul_nonneg (by omega) (by omega)
 constructor
 ·rintro ⟨h, _⟩; exact h
 ·intro h
  refine ⟨h, ?_⟩
  unfold Pure.has
  simp only
  omega
theorem paint_okq {n nc : Nat} {cs it : List (List Int)} {q : List Int} (hn : it.length = n) (hl : it.length ≤ 1000) (hnc : nc = H * W) (hcs : cs.length = nc) (he : empL (qR X Y S W H q).f0 (qR X Y S W H q).f1 (qR X Y S W H q).f2 (qR X Y S W H q).f3 = false) :
  paintOk X Y S W H n nc cs it (qR X Y S W H q).f0 (qR X Y S W H q).f1 (qR X Y S W H q).f2 (qR X Y S W H q).f3 = true := by
 have hq := q_in hG (q := q)
 obtain ⟨g1, g2, g3, g4, g5, g6, g7, g8, g9, g10, g11⟩ := hG
 have he' : ¬ Pure.emp (qR X Y S W H q) := by unfold empL at he; exact of_decide_eq_false he
 rcases hq with ⟨h1, h2, h3, h4⟩ | h
 ·unfold Pure.emp at he'
  have m1 := grid_mul (c := 0) (W := W) (by omega) g6 g7 (by omega)
  have m2 := grid_mul (c := 0) (W := H) (by omega) g6 g7 (by omega)
  have e5 : (H : Int) * (W : Int) = ((H * W : Nat) : Int) := by push_cast; rfl
  have e6 : (W : Int) * (H : Int) = ((H * W : Nat) : Int) := by rw [Int.mul_comm]; push_cast; rfl
  have e7 : 0 < H * W := Nat.mul_pos (by omega) (by omega)
  unfold paintOk
  refine decide_eq_true ⟨hn, hl, by omega, by omega, by omega, by omega, by omega, hcs, by omega, lo_nn g6 g7 ⟨g8, g9⟩ (by omega), lo_nn g6 g7 ⟨g10, g11⟩ (by omega)⟩
 ·exact absurd h he'
theorem showS_get {it : List (List Int)} {st : List (List Int) × Int} {q : List Int} {c r : Nat} (hc : c < W) (hr : r < H) (hl : st.1.length = H * W) :
  (showS X Y S W H it st q).1[r * W + c]? = if Pure.has (rI q) (X + c * S) (Y + r * S) then some [Pure.colr (it.map dec39) (X + c * S) (Y + r * S)] else st.1[r * W + c]? := by
 have hj : r * W + c < H * W := by
  have : (r + 1) * W ≤ H * W := Nat.mul_le_mul_right _ hr
  rw [Nat.add_mul] at this; omega
 have hq := q_in hG (q := q)
 have hqh := q_has hG (q := q) hc hr
 obtain ⟨p1, p2⟩ := pt_eq hG hc hr
 obtain ⟨g1, g2, g3, g4, g5, g6, g7, g8, g9, g10, g11⟩ := hG
 unfold showS
 cases he : empL (qR X Y S W H q).f0 (qR X Y S W H q).f1 (qR X Y S W H q).f2 (qR X Y S W H q).f3 with
 | true =>
  simp only [cond_true]
  have he' : Pure.emp (qR X Y S W H q) := of_decide_eq_true he
  rw [if_neg]
  rw [← hqh]
  unfold Pure.emp at he'
  unfold Pure.has
  omega
 | false =>
  simp only [cond_false]
  have he' : ¬ Pure.emp (qR X Y S W H q) := of_decide_eq_false he
  rcases hq with ⟨h1, h2, h3, h4⟩ | h
  ·have he2 := he'
   unfold Pure.emp at he2
   have m1 := grid_mul (c := 0) (W := W) (by omega) g6 g7 (by omega)
   have m2 := grid_mul (c := 0) (W := H) (by omega) g6 g7 (by omega)
   unfold paintC
   have t0 : 0 ≤ loI Y (qR X Y S W H q).f1 S H := lo_nn g6 g7 ⟨g10, g11⟩ (by omega)
   have et : loI Y (qR X Y S W H q).f1 S H = ((loI Y (qR X Y S W H q).f1 S H).toNat : Int) := by omega
   have hhW : hiI X (qR X Y S W H q).f0 (qR X Y S W H q).f2 S W ≤ W := by unfold hiI maxI minI; split <;> split <;> omega
   rw [et, gridP_get it X Y S W _ _ (lo_nn g6 g7 ⟨g8, g9⟩ (by omega)) hhW r c hc _ _ _ (by omega), p1, p2, colC_eq]
   have k1 := lo_ok (fr := X) (x0 := (qR X Y S W H q).f0) (x1 := (qR X Y S W H q).f2) g6 g7 ⟨g8, g9⟩ (by omega) (by omega) hc
   have k2 := lo_ok (fr := Y) (x0 := (qR X Y S W H q).f1) (x1 := (qR X Y S W H q).f3) g6 g7 ⟨g10, g11⟩ (by omega) (by omega) hr
   by_cases hh : Pure.has (rI q) (X + c * S) (Y + r * S)
   ·rw [if_pos hh, if_pos]
    have hh2 := hqh.2 hh
    unfold Pure.has at hh2
    have a1 := k1.2 ⟨hh2.1, hh2.2.1⟩
    have a2 := k2.2 ⟨hh2.2.2.1, hh2.2.2.2⟩
    omega
   ·rw [if_neg hh, if_neg]
    intro hcon
    apply hh
    rw [← hqh]
    have a1 := k1.1 ⟨by omega, by omega⟩
    have a2 := k2.1 ⟨by omega, by omega⟩
    exact ⟨a1.1, a1.2, a2.1, a2.2⟩
  ·exact absurd h he'
theorem showR_get {it : List (List Int)} {c r : Nat} (hc : c < W) (hr : r < H) : ∀ (rs : List (List Int)) (st : List (List Int) × Int), st.1.length = H * W →
  (showR X Y S W H it rs st).1[r * W + c]? = if Pure.inl (rs.map rI) (X + c * S) (Y + r * S) then some [Pure.colr (it.map dec39) (X + c * S) (Y + r * S)] else st.1[r * W + c]?
 | [], st, hl => by
  rw [List.map_nil, if_neg (Pure.inl_nil _ _)]
  rfl
 | q :: rs, st, hl => by
  have e : showR X Y S W H it (q :: rs) st = showR X Y S W H it rs (showS X Y S W H it st q) := rfl
  rw [e, showR_get hc hr rs _ (by rw [showS_len]; exact hl), showS_get hG hc hr hl, List.map_cons]
  by_cases h1 : Pure.inl (rs.map rI) (X + c * S) (Y + r * S)
  ·rw [if_pos h1, if_pos ((Pure.inl_cons _ _ _ _).2 (.inr h1))]
  ·rw [if_neg h1]
   by_cases h2 : Pure.has (rI q) (X + c * S) (Y + r * S)
   ·rw [if_pos h2, if_pos ((Pure.inl_cons _ _ _ _).2 (.inl h2))]
   ·rw [if_neg h2, if_neg]
    rw [Pure.inl_cons]
    rintro (h | h)
    ·exact h2 h
    ·exact h1 h
end
end Go.Proofs.Ytppklhfiajjhmaa.Ti
end
section
namespace Go.Proofs.Ytppklhfiajjhmaa.Ti
open Go Go.RowKit Go.Proofs.Ytppklhfiajjhmaa.Y Go.Proofs.Ytppklhfiajjhmaa.PPT
set_option linter.unusedVariables false
set_option linter.unusedSimpArgs false
def picL (it : List (List Int)) (X Y S : Int) (W H : Nat) : List (List Int) := (Pure.pic (it.map dec39) X Y S W H).map fun v => [v]
theorem picL_len (it : List (List Int)) (X Y S : Int) (W H : Nat) : (picL it X Y S W H).length = H * W := by unfold picL; rw [List.length_map, Pure.pic_len]
theorem pic_get (l : List S39) (X Y S : Int) (W : Nat) {c : Nat} (hc : c < W) : ∀ (n r : Nat), r < n → (Pure.pic l X Y S W n)[r * W + c]? = some (Pure.colr l (X + c * S) (Y + r * S))
 | 0, r, h => by omega
 | n + 1, r, h => by
  rw [Pure.pic_succ]
  have hl := Pure.pic_len l X Y S W n
  by_cases hr : r < n
  ·have : (r + 1) * W ≤ n * W := Nat.mul_le_mul_right _ hr
   rw [Nat.add_mul] at this
   rw [List.getElem?_append_left (by omega)]
   exact pic_get l X Y S W hc n r hr
  ·have e : r = n := by omega
   subst e
   rw [List.getElem?_append_right (by omega), hl, Nat.add_sub_cancel_left]
   unfold Pure.picRow
   rw [List.getElem?_map, List.getElem?_range hc]
   rfl
theorem picL_get (it : List (List Int)) (X Y S : Int) (W H : Nat) {c r : Nat} (hc : c < W) (hr : r < H) : (picL it X Y S W H)[r * W + c]? = some [Pure.colr (it.map dec39) (X + c * S) (Y + r * S)] := by
 unfold picL
 rw [List.getElem?_map, pic_get _ X Y S W hc H r hr]
 rfl
theorem harm_rI (old new : List (List Int)) : (harmL old new).map rI = Pure.harm (old.map dec39) (new.map dec39) := by
 unfold harmL
 rw [List.map_map]
 have : (rI ∘ enc37) = id := by funext x; rfl
 rw [this, List.map_id]
theorem colr_last (l : List S39) (x y : Int) : Pure.colr l x y = (Pure.lastC l x y none).getD 0 := by
 rw [Pure.lastC_own]
 unfold Pure.colr
 cases Pure.ownr l x y <;> rfl
section
variable {X Y S : Int} {W H : Nat} (hG : Pure.okG X Y S (W : Int) (H : Int))
include hG
theorem show_pic (old new : List (List Int)) (t : Int) : (showR X Y S W H new (harmL old new) (picL old X Y S W H, t)).1 = picL new X Y S W H := by
 have hW : 0 < W := by obtain ⟨g, _⟩ := hG; omega
 apply List.ext_getElem?
 intro j
 by_cases hj : j < H * W
 ·have hc : j % W < W := Nat.mod_lt _ hW
  have hr : j / W < H := (Nat.div_lt_iff_lt_mul hW).2 hj
  have e : j = j / W * W + j % W := (Nat.div_add_mod' j W).symm
  rw [e, showR_get hG hc hr _ _ (picL_len _ _ _ _ _ _), picL_get new X Y S W H hc hr, picL_get old X Y S W H hc hr, harm_rI]
  split
  ·rfl
  ·rename_i h
   rw [colr_last, colr_last, Pure.lastC_harm _ _ _ _ h]
 ·rw [List.getElem?_eq_none (by rw [showR_len, picL_len]; omega), List.getElem?_eq_none (by rw [picL_len]; omega)]
end
section
variable {X Y S : Int} {W H : Nat} (hG : Pure.okG X Y S (W : Int) (H : Int))
include hG
end
end Go.Proofs.Ytppklhfiajjhmaa.Ti
end
