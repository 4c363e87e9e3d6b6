/- What is proved: Apart tells whether no two of some rectangles have a point in common. Conditions: none. -/
import Derived.Test.YtipcledgblodjaaPCoverApartx
import Derived.Test.YtipcledgblodjaaOpens
namespace Go.Proofs.Ytipcledgblodjaa.Pure
open Go.RowKit Go.Proofs.Ytipcledgblodjaa.PCoverApart Go.Proofs.YtipcledgblodjaaW.PrintWords Go.Proofs.YtipcledgblodjaaW.PrintLast
set_option linter.unusedSimpArgs false
set_option linter.unusedVariables false
open Go.Proofs.Ytipcledgblodjaa.Opens

/-! ### A rectangle's points, in plain words -/
/-- No point is in it. -/
def emp (r : S24) : Prop := r.f0 ≥ r.f2 ∨ r.f1 ≥ r.f3
instance (r : S24) : Decidable (emp r) := by unfold emp; exact inferInstance
/-- A point is in it. -/
def has (r : S24) (x y : Int) : Prop := r.f0 ≤ x ∧ x < r.f2 ∧ r.f1 ≤ y ∧ y < r.f3
instance (r : S24) (x y : Int) : Decidable (has r x y) := by unfold has; exact inferInstance

theorem empty_eq (r : S24) : rect_Empty.f r.f0 r.f1 r.f2 r.f3 = some (decide (emp r)) := by
  unfold rect_Empty.f emp
  by_cases h : r.f0 ≥ r.f2
  · rw [if_pos h]; simp [h]
  · rw [if_neg h]; simp [h]

theorem rholds_eq (r : S24) (x y : Int) : decoupageref02_Holds.f r.f0 r.f1 r.f2 r.f3 x y = some (decide (has r x y)) := by
  unfold decoupageref02_Holds.f has
  by_cases h1 : r.f0 ≤ x
  · by_cases h2 : x < r.f2
    · by_cases h3 : r.f1 ≤ y
      · rw [if_pos h1, if_pos h2, if_pos h3]; simp [h1, h2, h3]
      · rw [if_pos h1, if_pos h2, if_neg h3]; simp [h3]
    · rw [if_pos h1, if_neg h2]; simp [h2]
  · rw [if_neg h1]; simp [h1]

theorem rempty_eq (r : S24) : decoupageref02_Empty.f r.f0 r.f1 r.f2 r.f3 = some (decide (emp r)) := by
  unfold decoupageref02_Empty.f
  rw [rholds_eq]
  simp only [Option.bind_some]
  by_cases h : emp r
  · have h1 : ¬ has r r.f0 r.f1 := by unfold emp at h; unfold has; omega
    simp [h, h1]
  · have h1 : has r r.f0 r.f1 := by unfold emp at h; unfold has; omega
    simp [h, h1]

/-- What two have in common. -/
def meet (a b : S24) : S24 :=
  if emp ⟨mx a.f0 b.f0, mx a.f1 b.f1, mn a.f2 b.f2, mn a.f3 b.f3⟩ then ⟨0, 0, 0, 0⟩ else ⟨mx a.f0 b.f0, mx a.f1 b.f1, mn a.f2 b.f2, mn a.f3 b.f3⟩
theorem meet_eq (a b : S24) : rect_Meet.f a.f0 a.f1 a.f2 a.f3 b.f0 b.f1 b.f2 b.f3 = some ((meet a b).f0, (meet a b).f1, (meet a b).f2, (meet a b).f3) := by
  unfold rect_Meet.f meet
  have h := empty_eq ⟨mx a.f0 b.f0, mx a.f1 b.f1, mn a.f2 b.f2, mn a.f3 b.f3⟩
  rw [h]
  simp only [Option.bind_some]
  by_cases h1 : emp ⟨mx a.f0 b.f0, mx a.f1 b.f1, mn a.f2 b.f2, mn a.f3 b.f3⟩
  · simp [h1]
  · simp [h1]
theorem mx_le {a b c : Int} : mx a b ≤ c ↔ a ≤ c ∧ b ≤ c := by unfold mx; split <;> omega
theorem lt_mn {a b c : Int} : c < mn a b ↔ c < a ∧ c < b := by unfold mn; split <;> omega
theorem mx_or (a b : Int) : mx a b = a ∧ b ≤ a ∨ mx a b = b ∧ a ≤ b := by unfold mx; split <;> omega
theorem mn_or (a b : Int) : mn a b = a ∧ a ≤ b ∨ mn a b = b ∧ b ≤ a := by unfold mn; split <;> omega
theorem has_meet (a b : S24) (x y : Int) : has (meet a b) x y ↔ has a x y ∧ has b x y := by
  unfold meet
  have e0 := mx_or a.f0 b.f0; have e1 := mx_or a.f1 b.f1; have e2 := mn_or a.f2 b.f2; have e3 := mn_or a.f3 b.f3
  split
  · rename_i h; unfold emp at h; unfold has; simp only at h ⊢; omega
  · rename_i h; unfold emp at h; unfold has; simp only at h ⊢; omega

/-- Its numbers are whole numbers of their kinds. -/
def Q24 (x : S24) : Prop := I64 x.f0 ∧ I64 x.f1 ∧ I64 x.f2 ∧ I64 x.f3

/-! ### A loop over a list, place by place -/
theorem w64 {n : Int} (h1 : -9223372036854775808 ≤ n) (h2 : n ≤ 9223372036854775807) : wrap64 n = n := by unfold wrap64; omega
theorem mid_lt {α : Type} (l1 : List α) (x : α) (l2 : List α) : ((l1.length : Int) < ((l1 ++ x :: l2).length : Int)) := by simp; omega
theorem mid_ge {α : Type} (l1 : List α) : ¬ ((l1.length : Int) < ((l1 ++ []).length : Int)) := by simp
theorem mid_next {α : Type} (l1 : List α) (x : α) (l2 : List α) (h : (l1 ++ x :: l2).length ≤ 4611686018427387904) : wrap64 ((l1.length : Int) + 1) = ((l1 ++ [x]).length : Int) := by
  simp at h ⊢
  rw [w64 (by omega) (by omega)]
theorem mid_app {α : Type} (l1 : List α) (x : α) (l2 : List α) : l1 ++ x :: l2 = (l1 ++ [x]) ++ l2 := by simp

theorem rd_mid (l1 : List S24) (x : S24) (l2 : List S24) : rd_T24 (l1 ++ x :: l2) (l1.length : Int) = x := by
  unfold rd_T24
  simp

/-! ### What is left of one without another one -/
/-- A rectangle has points. -/
def ne (r : S24) : Bool := !decide (emp r)
theorem ne_eq (r : S24) : ne r = decide (r.f0 < r.f2 ∧ r.f1 < r.f3) := by
  unfold ne
  by_cases h : emp r
  · have h2 : ¬ (r.f0 < r.f2 ∧ r.f1 < r.f3) := by unfold emp at h; omega
    rw [decide_eq_true h, decide_eq_false h2]; rfl
  · have h2 : r.f0 < r.f2 ∧ r.f1 < r.f3 := by unfold emp at h; omega
    rw [decide_eq_false h, decide_eq_true h2]; rfl
/-- What is cut out. -/
def cm (a b : S24) : S24 := if emp (meet a b) then ⟨a.f0, a.f3, a.f2, a.f3⟩ else meet a b
/-- The four pieces around what is cut out of a. -/
def pcs (a m : S24) : List S24 := [⟨a.f0, a.f1, a.f2, m.f1⟩, ⟨a.f0, m.f3, a.f2, a.f3⟩, ⟨a.f0, m.f1, m.f0, m.f3⟩, ⟨m.f2, m.f1, a.f2, m.f3⟩]
/-- What is left of a without b. -/
def cut (a b : S24) : List S24 := (pcs a (cm a b)).filter ne
theorem cutl (l2 : List S24) : ∀ (l1 acc : List S24) (k : Nat), l2.length < k → acc.length + l2.length < 4398046511104 → (l1 ++ l2).length ≤ 4611686018427387904 →
    rect_Cut.l0 k acc (l1 ++ l2) ((l1 ++ l2).length : Int) (l1.length : Int) = some (acc ++ l2.filter ne) := by
  induction l2 with
  | nil =>
    intro l1 acc k hk _ _
    obtain ⟨k, rfl⟩ : ∃ m, k = m + 1 := ⟨k - 1, by omega⟩
    simp only [rect_Cut.l0]
    rw [if_neg (mid_ge _)]
    simp
  | cons x l2 ih =>
    intro l1 acc k hk ha hn
    obtain ⟨k, rfl⟩ : ∃ m, k = m + 1 := ⟨k - 1, by omega⟩
    simp only [List.length_cons] at hk ha
    simp only [rect_Cut.l0]
    rw [if_pos (mid_lt _ _ _), if_pos (by omega), if_pos (mid_lt _ _ _), rd_mid, empty_eq, mid_next l1 x l2 hn]
    simp only [Option.bind_some]
    rw [mid_app] at hn ⊢
    by_cases he : emp x
    · rw [if_pos (by simpa using he), ih (l1 ++ [x]) acc k (by omega) (by omega) hn]
      simp [ne, he]
    · rw [if_neg (by simpa using he), if_pos (by omega), ih (l1 ++ [x]) (acc ++ [x]) k (by omega) (by simp; omega) hn]
      simp [ne, he]
theorem cut_eq (a b : S24) (k : Nat) (hk : 6 ≤ k) : rect_Cut.f k a.f0 a.f1 a.f2 a.f3 b.f0 b.f1 b.f2 b.f3 = some (cut a b) := by
  obtain ⟨k, rfl⟩ : ∃ m, k = m + 1 := ⟨k - 1, by omega⟩
  have hj : ∀ m : S24, rect_Cut.j0 (k + 1) a.f0 a.f1 a.f2 a.f3 m.f0 m.f1 m.f2 m.f3 = some ((pcs a m).filter ne) := fun m => by
    simp only [rect_Cut.j0, Option.bind_some]
    have := cutl (pcs a m) [] [] k (by simp [pcs]; omega) (by simp [pcs]) (by simp [pcs])
    simpa [pcs] using this
  unfold rect_Cut.f
  rw [meet_eq]
  simp only [Option.bind_some]
  rw [empty_eq (meet a b)]
  simp only [Option.bind_some]
  unfold cut cm
  by_cases h : emp (meet a b)
  · rw [if_pos (by simpa using h), if_pos h]
    exact hj ⟨a.f0, a.f3, a.f2, a.f3⟩
  · rw [if_neg (by simpa using h), if_neg h]
    exact hj (meet a b)
/-- In how many of some a point is. -/
def cnt (l : List S24) (x y : Int) : Nat := l.countP fun r => decide (has r x y)
theorem cnt_filter (l : List S24) (x y : Int) : cnt (l.filter ne) x y = cnt l x y := by
  unfold cnt
  rw [List.countP_filter]
  apply List.countP_congr
  intro r _
  have : has r x y → ¬ emp r := by unfold has emp; omega
  simp only [Bool.and_eq_true, decide_eq_true_eq, ne, Bool.not_eq_true', decide_eq_false_iff_not]
  exact ⟨fun h => h.1, fun h => ⟨h, this h⟩⟩
theorem cm_cases (a b : S24) : (cm a b = ⟨a.f0, a.f3, a.f2, a.f3⟩ ∧ ∀ x y, has a x y → ¬ has b x y) ∨
    (a.f0 ≤ (cm a b).f0 ∧ (cm a b).f0 < (cm a b).f2 ∧ (cm a b).f2 ≤ a.f2 ∧ a.f1 ≤ (cm a b).f1 ∧ (cm a b).f1 < (cm a b).f3 ∧ (cm a b).f3 ≤ a.f3 ∧ ∀ x y, has (cm a b) x y ↔ has a x y ∧ has b x y) := by
  unfold cm
  by_cases h : emp (meet a b)
  · rw [if_pos h]
    left
    refine ⟨rfl, fun x y h1 h2 => ?_⟩
    have h3 := (has_meet a b x y).2 ⟨h1, h2⟩
    unfold has at h3
    unfold emp at h
    omega
  · rw [if_neg h]
    right
    have hm := has_meet a b
    unfold emp at h
    have e0 := mx_or a.f0 b.f0; have e1 := mx_or a.f1 b.f1; have e2 := mn_or a.f2 b.f2; have e3 := mn_or a.f3 b.f3
    refine ⟨?_, by omega, ?_, ?_, by omega, ?_, hm⟩
    all_goals
      revert h
      unfold meet
      split
      · simp
      · simp only; omega
theorem cnt_pcs (a m : S24) (x y : Int) : cnt (pcs a m) x y =
    (if has ⟨a.f0, a.f1, a.f2, m.f1⟩ x y then 1 else 0) + (if has ⟨a.f0, m.f3, a.f2, a.f3⟩ x y then 1 else 0) +
    (if has ⟨a.f0, m.f1, m.f0, m.f3⟩ x y then 1 else 0) + (if has ⟨m.f2, m.f1, a.f2, m.f3⟩ x y then 1 else 0) := by
  unfold cnt pcs
  simp only [List.countP_cons, List.countP_nil, decide_eq_true_eq]
  omega
theorem cnt_cut (a b : S24) (x y : Int) : cnt (cut a b) x y = if has a x y ∧ ¬ has b x y then 1 else 0 := by
  unfold cut
  rw [cnt_filter, cnt_pcs]
  rcases cm_cases a b with ⟨e, h⟩ | ⟨h0, h1, h2, h3, h4, h5, h6⟩
  · rw [e]
    have h' := h x y
    by_cases hb : has b x y
    · have ha : ¬ has a x y := fun ha => h' ha hb
      simp only [ha, false_and, if_false]
      (repeat' split) <;> simp only [has] at * <;> omega
    · simp only [hb, not_false_eq_true, and_true]
      clear h h' hb e
      (repeat' split) <;> simp only [has] at * <;> omega
  · have h' := h6 x y
    clear h6
    by_cases ha : has a x y
    · by_cases hb : has b x y
      · have hm := h'.2 ⟨ha, hb⟩
        simp only [hb, not_true, and_false, if_false]
        clear h' ha hb
        (repeat' split) <;> simp only [has] at * <;> omega
      · have hm : ¬ has (cm a b) x y := fun hm => hb (h'.1 hm).2
        simp only [ha, hb, not_false_eq_true, and_true, if_true]
        clear h' hb
        (repeat' split) <;> simp only [has] at * <;> omega
    · simp only [ha, false_and, if_false]
      clear h'
      (repeat' split) <;> simp only [has] at * <;> omega

/-! ### What is left of one without others -/
/-- A point is in one of some. -/
def inl (l : List S24) (x y : Int) : Prop := ∃ q ∈ l, has q x y
theorem inl_nil (x y : Int) : ¬ inl [] x y := by rintro ⟨q, h, _⟩; simp at h
theorem inl_cons (q : S24) (l : List S24) (x y : Int) : inl (q :: l) x y ↔ has q x y ∨ inl l x y := by
  unfold inl; simp
theorem inl_app (l m : List S24) (x y : Int) : inl (l ++ m) x y ↔ inl l x y ∨ inl m x y := by
  unfold inl
  constructor
  · rintro ⟨q, h, h2⟩
    rcases List.mem_append.1 h with h | h
    · exact .inl ⟨q, h, h2⟩
    · exact .inr ⟨q, h, h2⟩
  · rintro (⟨q, h, h2⟩ | ⟨q, h, h2⟩)
    · exact ⟨q, List.mem_append_left _ h, h2⟩
    · exact ⟨q, List.mem_append_right _ h, h2⟩
instance (l : List S24) (x y : Int) : Decidable (inl l x y) := by unfold inl; exact inferInstance
theorem inl_cnt (l : List S24) (x y : Int) : inl l x y ↔ 1 ≤ cnt l x y := by
  unfold inl cnt
  rw [Nat.succ_le_iff, List.countP_pos_iff]
  simp
theorem cnt_app (l m : List S24) (x y : Int) : cnt (l ++ m) x y = cnt l x y + cnt m x y := List.countP_append
theorem cnt_cons (q : S24) (l : List S24) (x y : Int) : cnt (q :: l) x y = cnt l x y + if has q x y then 1 else 0 := by
  unfold cnt; rw [List.countP_cons]; simp
/-- All of some without one. -/
def cuts (left : List S24) (q : S24) : List S24 := left.flatMap fun y => cut y q
theorem cnt_cuts (left : List S24) (q : S24) (x y : Int) : cnt (cuts left q) x y = if has q x y then 0 else cnt left x y := by
  unfold cuts
  induction left with
  | nil => simp [cnt]
  | cons a left ih =>
    rw [List.flatMap_cons, cnt_app, ih, cnt_cut, cnt_cons]
    by_cases h1 : has q x y <;> by_cases h2 : has a x y <;> simp [h1, h2] <;> omega
/-- What is left of one, others cut off one behind the other. -/
def rest (r : S24) (l : List S24) : List S24 := l.foldl cuts (if emp r then [] else [r])
theorem rest_nil (r : S24) : rest r [] = if emp r then [] else [r] := rfl
theorem rest_snoc (r : S24) (l : List S24) (q : S24) : rest r (l ++ [q]) = cuts (rest r l) q := by
  unfold rest; rw [List.foldl_append]; rfl
theorem cnt_fold (l : List S24) (x y : Int) : ∀ left, cnt (l.foldl cuts left) x y = if inl l x y then 0 else cnt left x y := by
  induction l with
  | nil => intro left; simp [inl_nil]
  | cons q l ih =>
    intro left
    rw [List.foldl_cons, ih, cnt_cuts]
    by_cases h1 : has q x y <;> by_cases h2 : inl l x y <;> simp [h1, h2, inl_cons]
theorem cnt_rest (r : S24) (l : List S24) (x y : Int) : cnt (rest r l) x y = if has r x y ∧ ¬ inl l x y then 1 else 0 := by
  unfold rest
  rw [cnt_fold]
  by_cases h0 : emp r
  · have h1 : ¬ has r x y := by unfold emp at h0; unfold has; omega
    simp [h0, h1, cnt]
  · by_cases h1 : has r x y <;> by_cases h2 : inl l x y <;> simp [h0, h1, h2, cnt]
theorem ne_cut (a b : S24) : ∀ q ∈ cut a b, ¬ emp q := by
  intro q hq
  unfold cut at hq
  have := (List.mem_filter.1 hq).2
  simpa [ne] using this
theorem ne_fold (l : List S24) : ∀ left : List S24, (∀ q ∈ left, ¬ emp q) → ∀ q ∈ l.foldl cuts left, ¬ emp q := by
  induction l with
  | nil => intro left h; exact h
  | cons b l ih =>
    intro left h
    rw [List.foldl_cons]
    refine ih _ fun q hq => ?_
    unfold cuts at hq
    obtain ⟨a, _, ha⟩ := List.mem_flatMap.1 hq
    exact ne_cut a b q ha
theorem ne_rest (r : S24) (l : List S24) : ∀ q ∈ rest r l, ¬ emp q := by
  refine ne_fold l _ fun q hq => ?_
  by_cases h : emp r
  · simp [h] at hq
  · simp [h] at hq; subst hq; exact h
theorem has_corner {q : S24} (h : ¬ emp q) : has q q.f0 q.f1 := by unfold emp at h; unfold has; omega
/-- Nothing is left just where all is in the others. -/
theorem rest_nil_iff (r : S24) (l : List S24) : rest r l = [] ↔ ∀ x y, has r x y → inl l x y := by
  constructor
  · intro h x y hr
    have := cnt_rest r l x y
    rw [h] at this
    by_cases hi : inl l x y
    · exact hi
    · simp [hr, hi, cnt] at this
  · intro h
    cases hl : rest r l with
    | nil => rfl
    | cons q m =>
      have hq := ne_rest r l q (by rw [hl]; simp)
      have h1 := cnt_rest r l q.f0 q.f1
      rw [hl, cnt_cons, if_pos (has_corner hq)] at h1
      split at h1
      · rename_i h2; exact absurd (h _ _ h2.1) h2.2
      · omega
theorem cuts_len (left : List S24) (q : S24) : (cuts left q).length ≤ 4 * left.length := by
  unfold cuts
  induction left with
  | nil => simp
  | cons a left ih =>
    rw [List.flatMap_cons, List.length_append, List.length_cons]
    have : (cut a q).length ≤ 4 := List.length_filter_le ne (pcs a (cm a q))
    omega
theorem rest_len (r : S24) (l : List S24) : (rest r l).length ≤ 4 ^ l.length := by
  unfold rest
  have key : ∀ (l left : List S24), (l.foldl cuts left).length ≤ 4 ^ l.length * left.length := by
    intro l
    induction l with
    | nil => intro left; simp
    | cons q l ih =>
      intro left
      rw [List.foldl_cons, List.length_cons, Nat.pow_succ, Nat.mul_assoc]
      exact Nat.le_trans (ih _) (Nat.mul_le_mul_left _ (cuts_len left q))
  have h := key l (if emp r then [] else [r])
  split at h
  · simp at h ⊢; rename_i h0; simp [h0, h]
  · rename_i h0; simpa [h0] using h

theorem rmeet_eq (a b : S24) (k : Nat) (hk : 3 ≤ k) : decoupageref02_Meet.f k a.f0 a.f1 a.f2 a.f3 b.f0 b.f1 b.f2 b.f3 = some ((meet a b).f0, (meet a b).f1, (meet a b).f2, (meet a b).f3) := by
  obtain ⟨k, rfl⟩ : ∃ m, k = m + 3 := ⟨k - 3, by omega⟩
  have hE : ∀ p q r s : Int, decoupageref02_Empty.f p q r s = some (decide (emp ⟨p, q, r, s⟩)) := fun p q r s => rempty_eq ⟨p, q, r, s⟩
  unfold decoupageref02_Meet.f meet
  simp only [decoupageref02_Meet.j0, decoupageref02_Meet.j1, decoupageref02_Meet.j2, hE, Option.bind_some, mx, mn]
  simp only [gt_iff_lt]
  by_cases h0 : a.f0 < b.f0 <;> by_cases h1 : a.f1 < b.f1 <;> by_cases h2 : b.f2 < a.f2 <;> by_cases h3 : b.f3 < a.f3 <;>
    simp only [h0, h1, h2, h3, if_true, if_false] <;> split <;> simp_all

theorem awake_ev : Ev (fun k => decoupagelaw03_awake.f k) true := Ev.of (k := 40) (fun k => decoupagelaw03_awake.mono k) (by decide +kernel)

/-! ### Apart -/
/-- From place i on (d of them): has each nothing in common with those ahead of it? -/
def apF (l : List S24) : Nat → Nat → Bool
  | 0, _ => true
  | d + 1, i => (l.take i).all (fun b => decide (emp (meet (l.getD i z24) b))) && apF l d (i + 1)
/-- No two have a point in common. -/
def apart (l : List S24) : Bool := apF l l.length 0
theorem rd_at (l : List S24) (n : Nat) : rd_T24 l (n : Int) = l.getD n z24 := by unfold rd_T24; simp
theorem apl1 (a : S24) (l : List S24) (n i : Int) (r : Bool) (y2 : List S24) : ∀ (y1 y : List S24), y1 ++ y2 = y → y.length ≤ 4611686018427387904 →
    (if y2.all (fun b => decide (emp (meet a b))) then Ev (fun k => cover_Apart.l0 k l l n (wrap64 (i + 1))) r else r = false) →
    Ev (fun k => cover_Apart.l1 k l l n i y (y.length : Int) (y1.length : Int) a.f0 a.f1 a.f2 a.f3) r := by
  induction y2 with
  | nil =>
    rintro y1 y rfl _ h
    simp only [List.all_nil, if_true] at h
    obtain ⟨K, hK⟩ := h
    refine ⟨K + 1, fun k hk => ?_⟩
    obtain ⟨k, rfl⟩ : ∃ m, k = m + 1 := ⟨k - 1, by omega⟩
    simp only [cover_Apart.l1]
    rw [if_neg (mid_ge _)]
    exact hK k (by omega)
  | cons b y2 ih =>
    rintro y1 y rfl hn h
    by_cases hb : emp (meet a b)
    · simp only [List.all_cons, hb, decide_true, Bool.true_and] at h
      obtain ⟨K, hK⟩ := ih (y1 ++ [b]) (y1 ++ b :: y2) (by simp) hn h
      refine ⟨K + 1, fun k hk => ?_⟩
      obtain ⟨k, rfl⟩ : ∃ m, k = m + 1 := ⟨k - 1, by omega⟩
      simp only [cover_Apart.l1]
      rw [if_pos (mid_lt _ _ _), if_pos (by omega), if_pos (mid_lt _ _ _), rd_mid, mid_next y1 b y2 hn, meet_eq]
      simp only [Option.bind_some]
      rw [empty_eq (meet a b)]
      simp only [Option.bind_some]
      rw [if_pos (by simpa using hb)]
      exact hK k (by omega)
    · simp only [List.all_cons, hb, decide_false, Bool.false_and, Bool.false_eq_true, if_false] at h
      refine ⟨1, fun k hk => ?_⟩
      obtain ⟨k, rfl⟩ : ∃ m, k = m + 1 := ⟨k - 1, by omega⟩
      simp only [cover_Apart.l1]
      rw [if_pos (mid_lt _ _ _), if_pos (by omega), if_pos (mid_lt _ _ _), rd_mid, meet_eq]
      simp only [Option.bind_some]
      rw [empty_eq (meet a b)]
      simp only [Option.bind_some]
      rw [if_neg (by simpa using hb), h]
theorem apl0 (l : List S24) (hn : l.length ≤ 4611686018427387904) : ∀ (d i : Nat), i + d = l.length → Ev (fun k => cover_Apart.l0 k l l (l.length : Int) (i : Int)) (apF l d i)
  | 0, i, h => by
    refine ⟨1, fun k hk => ?_⟩
    obtain ⟨k, rfl⟩ : ∃ m, k = m + 1 := ⟨k - 1, by omega⟩
    simp only [cover_Apart.l0]
    rw [if_neg (by omega)]
    rfl
  | d + 1, i, h => by
    have ih := apl0 l hn d (i + 1) (by omega)
    have e : wrap64 ((i : Int) + 1) = ((i + 1 : Nat) : Int) := by rw [w64 (by omega) (by omega)]; omega
    obtain ⟨K, hK⟩ := apl1 (l.getD i z24) l (l.length : Int) (i : Int) (apF l (d + 1) i) (l.take i) [] (l.take i) rfl (by rw [List.length_take]; omega) (by
      rw [e]
      simp only [apF]
      by_cases hb : ((l.take i).all fun b => decide (emp (meet (l.getD i z24) b))) = true
      · rw [if_pos hb, hb, Bool.true_and]; exact ih
      · rw [if_neg hb, Bool.eq_false_iff.2 hb, Bool.false_and])
    refine ⟨K + 1, fun k hk => ?_⟩
    obtain ⟨k, rfl⟩ : ∃ m, k = m + 1 := ⟨k - 1, by omega⟩
    simp only [cover_Apart.l0]
    rw [if_pos (by omega), if_pos (by omega), if_pos (by omega), if_pos (by omega), rd_at]
    exact hK k (by omega)
theorem apart_eq (l : List S24) (hn : l.length ≤ 4611686018427387904) : Ev (fun k => cover_Apart.f k l) (apart l) := apl0 l hn l.length 0 (by omega)

theorem emp_comm (a b : S24) : emp (meet a b) ↔ emp (meet b a) := by
  have hm : ∀ x y : Int, mx x y = mx y x := fun x y => by unfold mx; split <;> split <;> omega
  have hn : ∀ x y : Int, mn x y = mn y x := fun x y => by unfold mn; split <;> split <;> omega
  have : meet a b = meet b a := by unfold meet; rw [hm a.f0, hm a.f1, hn a.f2, hn a.f3]
  rw [this]
theorem rapl1 (l : List S24) (hn : l.length ≤ 4611686018427387904) (i : Nat) (hi : i < l.length) (n : Int) (r : Bool) : ∀ (d j : Nat), j + d = i →
    (if ((l.take i).drop j).all (fun b => decide (emp (meet (l.getD i z24) b))) then Ev (fun k => decoupageref03_Apart.l0 k l n (wrap64 ((i : Int) + 1))) r else r = false) →
    Ev (fun k => decoupageref03_Apart.l1 k l (i : Int) n (i : Int) (i : Int) (j : Int)) r
  | 0, j, h, hr => by
    obtain rfl : j = i := by omega
    rw [List.drop_of_length_le (by rw [List.length_take]; omega)] at hr
    simp only [List.all_nil, if_true] at hr
    obtain ⟨K, hK⟩ := hr
    refine ⟨K + 1, fun k hk => ?_⟩
    obtain ⟨k, rfl⟩ : ∃ m, k = m + 1 := ⟨k - 1, by omega⟩
    simp only [decoupageref03_Apart.l1]
    rw [if_neg (by omega)]
    exact hK k (by omega)
  | d + 1, j, h, hr => by
    have e : wrap64 ((j : Int) + 1) = ((j + 1 : Nat) : Int) := by rw [w64 (by omega) (by omega)]; omega
    have ej : (l.take i).drop j = l.getD j z24 :: (l.take i).drop (j + 1) := by
      have hj : j < (l.take i).length := by rw [List.length_take]; omega
      have : l.getD j z24 = (l.take i)[j] := by rw [List.getElem_take]; simp [List.getD_eq_getElem?_getD, show j < l.length by omega]
      rw [this, List.getElem_cons_drop]
    rw [ej, List.all_cons] at hr
    by_cases hb : emp (meet (l.getD i z24) (l.getD j z24))
    · simp only [hb, decide_true, Bool.true_and] at hr
      obtain ⟨K, hK⟩ := rapl1 l hn i hi n r d (j + 1) (by omega) hr
      refine ⟨K + 4, fun k hk => ?_⟩
      obtain ⟨k, rfl⟩ : ∃ m, k = m + 1 := ⟨k - 1, by omega⟩
      simp only [decoupageref03_Apart.l1]
      rw [if_pos (by omega), if_pos (by omega), if_pos (by omega), if_pos (by omega), if_pos (by omega), rd_at, rd_at, rmeet_eq _ _ k (by omega), e]
      simp only [Option.bind_some]
      rw [rempty_eq (meet _ _)]
      simp only [Option.bind_some]
      rw [if_pos (by simpa using (emp_comm _ _).1 hb)]
      exact hK k (by omega)
    · simp only [hb, decide_false, Bool.false_and, Bool.false_eq_true, if_false] at hr
      refine ⟨4, fun k hk => ?_⟩
      obtain ⟨k, rfl⟩ : ∃ m, k = m + 1 := ⟨k - 1, by omega⟩
      simp only [decoupageref03_Apart.l1]
      rw [if_pos (by omega), if_pos (by omega), if_pos (by omega), if_pos (by omega), if_pos (by omega), rd_at, rd_at, rmeet_eq _ _ k (by omega)]
      simp only [Option.bind_some]
      rw [rempty_eq (meet _ _)]
      simp only [Option.bind_some]
      rw [if_neg (by simpa using fun h => hb ((emp_comm _ _).2 h)), hr]
theorem rapl0 (l : List S24) (hn : l.length ≤ 4611686018427387904) : ∀ (d i : Nat), i + d = l.length → Ev (fun k => decoupageref03_Apart.l0 k l (l.length : Int) (i : Int)) (apF l d i)
  | 0, i, h => by
    refine ⟨1, fun k hk => ?_⟩
    obtain ⟨k, rfl⟩ : ∃ m, k = m + 1 := ⟨k - 1, by omega⟩
    simp only [decoupageref03_Apart.l0]
    rw [if_neg (by omega)]
    rfl
  | d + 1, i, h => by
    have ih := rapl0 l hn d (i + 1) (by omega)
    have e : wrap64 ((i : Int) + 1) = ((i + 1 : Nat) : Int) := by rw [w64 (by omega) (by omega)]; omega
    obtain ⟨K, hK⟩ := rapl1 l hn i (by omega) (l.length : Int) (apF l (d + 1) i) i 0 (by omega) (by
      rw [e, List.drop_zero]
      simp only [apF]
      by_cases hb : ((l.take i).all fun b => decide (emp (meet (l.getD i z24) b))) = true
      · rw [if_pos hb, hb, Bool.true_and]; exact ih
      · rw [if_neg hb, Bool.eq_false_iff.2 hb, Bool.false_and])
    refine ⟨K + 1, fun k hk => ?_⟩
    obtain ⟨k, rfl⟩ : ∃ m, k = m + 1 := ⟨k - 1, by omega⟩
    simp only [decoupageref03_Apart.l0]
    rw [if_pos (by omega)]
    exact hK k (by omega)
theorem CoverApart : ∀ (l0 : List S24), (∀ x ∈ l0, Q24 x) → ∃ k, decoupagelaw03_CoverApart.f k l0 = some true := by
  intro l _
  obtain ⟨KA, hA⟩ := awake_ev
  dsimp only at hA
  by_cases hl : (l.length : Int) > 20
  · refine ⟨KA + 1, ?_⟩
    unfold decoupagelaw03_CoverApart.f
    rw [hA _ (by omega)]
    simp only [Option.bind_some, if_true, decoupagelaw03_CoverApart.j0]
    rw [if_pos (by simpa using hl), hA _ (by omega)]
    rfl
  · obtain ⟨K1, h1⟩ := apart_eq l (by omega)
    obtain ⟨K2, h2⟩ := rapl0 l (by omega) l.length 0 (by omega)
    dsimp only at h1 h2
    refine ⟨KA + K1 + K2 + 1, ?_⟩
    unfold decoupagelaw03_CoverApart.f
    rw [hA _ (by omega)]
    simp only [Option.bind_some, if_true, decoupagelaw03_CoverApart.j0]
    rw [if_neg (by simpa using hl), h1 _ (by omega)]
    have e : decoupageref03_Apart.f (KA + K1 + K2) l = some (apart l) := h2 _ (by omega)
    rw [e]
    simp

end Go.Proofs.Ytipcledgblodjaa.Pure
