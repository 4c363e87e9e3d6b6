/- What is proved: Cut gives the specified, disjoint, non-empty pieces. Conditions: none. -/
import Derived.Test.YtmfmpfneekngaaaPRectCutsx
import Derived.Test.YtmfmpfneekngaaaOpens
namespace Go.Proofs.Ytmfmpfneekngaaa.Pure
open Go.RowKit Go.Proofs.Ytmfmpfneekngaaa.PRectCuts Go.Proofs.YtmfmpfneekngaaaW.PrintWords Go.Proofs.YtmfmpfneekngaaaW.PrintLast
open Go.Proofs.Ytmfmpfneekngaaa.Opens

/-! ### A rectangle's points, in plain words -/
/-- No point is in it. -/
def emp (r : S30) : Prop := r.f0 ≥ r.f2 ∨ r.f1 ≥ r.f3
instance (r : S30) : Decidable (emp r) := by unfold emp; exact inferInstance
/-- A point is in it. -/
def has (r : S30) (x y : Int) : Prop := r.f0 ≤ x ∧ x < r.f2 ∧ r.f1 ≤ y ∧ y < r.f3
instance (r : S30) (x y : Int) : Decidable (has r x y) := by unfold has; exact inferInstance
theorem empty_eq (r : S30) : rect_Empty.f r.f0 r.f1 r.f2 r.f3 = some (decide (emp r)) := by
  unfold rect_Empty.f emp
  by_cases h : r.f0 ≥ r.f2
  · rw [if_pos h]; simp [h]
  · rw [if_neg h]; simp [h]

theorem holds_eq (r : S30) (x y : Int) : rect_Holds.f r.f0 r.f1 r.f2 r.f3 x y = some (decide (has r x y)) := by
  unfold rect_Holds.f has
  by_cases h1 : x ≥ r.f0
  · by_cases h2 : x < r.f2
    · by_cases h3 : y ≥ r.f1
      · rw [if_pos h1, if_pos h2, if_pos h3]; simp [h1, h2, h3]
      · rw [if_pos h1, if_pos h2, if_neg h3]; simp [h3]
    · rw [if_pos h1, if_neg h2]; simp [h2]
  · rw [if_neg h1]; simp [h1]

theorem rholds_eq (r : S30) (x y : Int) : decoupageref02_Holds.f r.f0 r.f1 r.f2 r.f3 x y = some (decide (has r x y)) := by
  unfold decoupageref02_Holds.f has
  by_cases h1 : r.f0 ≤ x
  · by_cases h2 : x < r.f2
    · by_cases h3 : r.f1 ≤ y
      · rw [if_pos h1, if_pos h2, if_pos h3]; simp [h1, h2, h3]
      · rw [if_pos h1, if_pos h2, if_neg h3]; simp [h3]
    · rw [if_pos h1, if_neg h2]; simp [h2]
  · rw [if_neg h1]; simp [h1]

theorem rempty_eq (r : S30) : decoupageref02_Empty.f r.f0 r.f1 r.f2 r.f3 = some (decide (emp r)) := by
  unfold decoupageref02_Empty.f
  rw [rholds_eq]
  simp only [Option.bind_some]
  by_cases h : emp r
  · have h1 : ¬ has r r.f0 r.f1 := by unfold emp at h; unfold has; omega
    simp [h, h1]
  · have h1 : has r r.f0 r.f1 := by unfold emp at h; unfold has; omega
    simp [h, h1]

/-- What two have in common. -/
def meet (a b : S30) : S30 :=
  if emp ⟨mx a.f0 b.f0, mx a.f1 b.f1, mn a.f2 b.f2, mn a.f3 b.f3⟩ then ⟨0, 0, 0, 0⟩ else ⟨mx a.f0 b.f0, mx a.f1 b.f1, mn a.f2 b.f2, mn a.f3 b.f3⟩
theorem meet_eq (a b : S30) : rect_Meet.f a.f0 a.f1 a.f2 a.f3 b.f0 b.f1 b.f2 b.f3 = some ((meet a b).f0, (meet a b).f1, (meet a b).f2, (meet a b).f3) := by
  unfold rect_Meet.f meet
  have h := empty_eq ⟨mx a.f0 b.f0, mx a.f1 b.f1, mn a.f2 b.f2, mn a.f3 b.f3⟩
  rw [h]
  simp only [Option.bind_some]
  by_cases h1 : emp ⟨mx a.f0 b.f0, mx a.f1 b.f1, mn a.f2 b.f2, mn a.f3 b.f3⟩
  · simp [h1]
  · simp [h1]
theorem mx_le {a b c : Int} : mx a b ≤ c ↔ a ≤ c ∧ b ≤ c := by unfold mx; split <;> omega
theorem lt_mn {a b c : Int} : c < mn a b ↔ c < a ∧ c < b := by unfold mn; split <;> omega
theorem mx_or (a b : Int) : mx a b = a ∧ b ≤ a ∨ mx a b = b ∧ a ≤ b := by unfold mx; split <;> omega
theorem mn_or (a b : Int) : mn a b = a ∧ a ≤ b ∨ mn a b = b ∧ b ≤ a := by unfold mn; split <;> omega
theorem has_meet (a b : S30) (x y : Int) : has (meet a b) x y ↔ has a x y ∧ has b x y := by
  unfold meet
  have e0 := mx_or a.f0 b.f0; have e1 := mx_or a.f1 b.f1; have e2 := mn_or a.f2 b.f2; have e3 := mn_or a.f3 b.f3
  split
  · rename_i h; unfold emp at h; unfold has; simp only at h ⊢; omega
  · rename_i h; unfold emp at h; unfold has; simp only at h ⊢; omega

theorem awake_ok (k : Nat) (hk : 8 ≤ k) : decoupagelaw02_awake.f k = some true :=
  at_rounds (g := fun k => decoupagelaw02_awake.f k) (fun k => decoupagelaw02_awake.mono k) hk (by decide +kernel)

/-- Its numbers are whole numbers of their kinds. -/
def Q30 (x : S30) : Prop := I64 x.f0 ∧ I64 x.f1 ∧ I64 x.f2 ∧ I64 x.f3

theorem rmeet_eq (a b : S30) (k : Nat) (hk : 3 ≤ k) : decoupageref02_Meet.f k a.f0 a.f1 a.f2 a.f3 b.f0 b.f1 b.f2 b.f3 = some ((meet a b).f0, (meet a b).f1, (meet a b).f2, (meet a b).f3) := by
  obtain ⟨k, rfl⟩ : ∃ m, k = m + 3 := ⟨k - 3, by omega⟩
  have hE : ∀ p q r s : Int, decoupageref02_Empty.f p q r s = some (decide (emp ⟨p, q, r, s⟩)) := fun p q r s => rempty_eq ⟨p, q, r, s⟩
  unfold decoupageref02_Meet.f meet
  simp only [decoupageref02_Meet.j0, decoupageref02_Meet.j1, decoupageref02_Meet.j2, hE, Option.bind_some, mx, mn]
  simp only [gt_iff_lt]
  by_cases h0 : a.f0 < b.f0 <;> by_cases h1 : a.f1 < b.f1 <;> by_cases h2 : b.f2 < a.f2 <;> by_cases h3 : b.f3 < a.f3 <;>
    simp only [h0, h1, h2, h3, if_true, if_false] <;> split <;> simp_all

/-! ### A loop over a list, place by place -/
theorem w64 {n : Int} (h1 : -9223372036854775808 ≤ n) (h2 : n ≤ 9223372036854775807) : wrap64 n = n := by unfold wrap64; omega
theorem mid_lt {α : Type} (l1 : List α) (x : α) (l2 : List α) : ((l1.length : Int) < ((l1 ++ x :: l2).length : Int)) := by simp; omega
theorem mid_ge {α : Type} (l1 : List α) : ¬ ((l1.length : Int) < ((l1 ++ []).length : Int)) := by simp
theorem mid_next {α : Type} (l1 : List α) (x : α) (l2 : List α) (h : (l1 ++ x :: l2).length ≤ 4611686018427387904) : wrap64 ((l1.length : Int) + 1) = ((l1 ++ [x]).length : Int) := by
  simp at h ⊢
  rw [w64 (by omega) (by omega)]
theorem mid_app {α : Type} (l1 : List α) (x : α) (l2 : List α) : l1 ++ x :: l2 = (l1 ++ [x]) ++ l2 := by simp

theorem rd_mid (l1 : List S30) (x : S30) (l2 : List S30) : rd_T30 (l1 ++ x :: l2) (l1.length : Int) = x := by
  unfold rd_T30
  simp

/-! ### What is left of one without another one -/
/-- A rectangle has points. -/
def ne (r : S30) : Bool := !decide (emp r)
theorem ne_eq (r : S30) : ne r = decide (r.f0 < r.f2 ∧ r.f1 < r.f3) := by
  unfold ne
  by_cases h : emp r
  · have h2 : ¬ (r.f0 < r.f2 ∧ r.f1 < r.f3) := by unfold emp at h; omega
    rw [decide_eq_true h, decide_eq_false h2]; rfl
  · have h2 : r.f0 < r.f2 ∧ r.f1 < r.f3 := by unfold emp at h; omega
    rw [decide_eq_false h, decide_eq_true h2]; rfl
/-- What is cut out. -/
def cm (a b : S30) : S30 := if emp (meet a b) then ⟨a.f0, a.f3, a.f2, a.f3⟩ else meet a b
/-- The four pieces around what is cut out of a. -/
def pcs (a m : S30) : List S30 := [⟨a.f0, a.f1, a.f2, m.f1⟩, ⟨a.f0, m.f3, a.f2, a.f3⟩, ⟨a.f0, m.f1, m.f0, m.f3⟩, ⟨m.f2, m.f1, a.f2, m.f3⟩]
/-- What is left of a without b. -/
def cut (a b : S30) : List S30 := (pcs a (cm a b)).filter ne
theorem cutl (l2 : List S30) : ∀ (l1 acc : List S30) (k : Nat), l2.length < k → acc.length + l2.length < 4398046511104 → (l1 ++ l2).length ≤ 4611686018427387904 →
    rect_Cut.l0 k acc (l1 ++ l2) ((l1 ++ l2).length : Int) (l1.length : Int) = some (acc ++ l2.filter ne) := by
  induction l2 with
  | nil =>
    intro l1 acc k hk _ _
    obtain ⟨k, rfl⟩ : ∃ m, k = m + 1 := ⟨k - 1, by omega⟩
    simp only [rect_Cut.l0]
    rw [if_neg (mid_ge _)]
    simp
  | cons x l2 ih =>
    intro l1 acc k hk ha hn
    obtain ⟨k, rfl⟩ : ∃ m, k = m + 1 := ⟨k - 1, by omega⟩
    simp only [List.length_cons] at hk ha
    simp only [rect_Cut.l0]
    rw [if_pos (mid_lt _ _ _), if_pos (by omega), if_pos (mid_lt _ _ _), rd_mid, empty_eq, mid_next l1 x l2 hn]
    simp only [Option.bind_some]
    rw [mid_app] at hn ⊢
    by_cases he : emp x
    · rw [if_pos (by simpa using he), ih (l1 ++ [x]) acc k (by omega) (by omega) hn]
      simp [ne, he]
    · rw [if_neg (by simpa using he), if_pos (by omega), ih (l1 ++ [x]) (acc ++ [x]) k (by omega) (by simp; omega) hn]
      simp [ne, he]
theorem cut_eq (a b : S30) (k : Nat) (hk : 6 ≤ k) : rect_Cut.f k a.f0 a.f1 a.f2 a.f3 b.f0 b.f1 b.f2 b.f3 = some (cut a b) := by
  obtain ⟨k, rfl⟩ : ∃ m, k = m + 1 := ⟨k - 1, by omega⟩
  have hj : ∀ m : S30, rect_Cut.j0 (k + 1) a.f0 a.f1 a.f2 a.f3 m.f0 m.f1 m.f2 m.f3 = some ((pcs a m).filter ne) := fun m => by
    simp only [rect_Cut.j0, Option.bind_some]
    have := cutl (pcs a m) [] [] k (by simp [pcs]; omega) (by simp [pcs]) (by simp [pcs])
    simpa [pcs] using this
  unfold rect_Cut.f
  rw [meet_eq]
  simp only [Option.bind_some]
  rw [empty_eq (meet a b)]
  simp only [Option.bind_some]
  unfold cut cm
  by_cases h : emp (meet a b)
  · rw [if_pos (by simpa using h), if_pos h]
    exact hj ⟨a.f0, a.f3, a.f2, a.f3⟩
  · rw [if_neg (by simpa using h), if_neg h]
    exact hj (meet a b)
/-- In how many of some a point is. -/
def cnt (l : List S30) (x y : Int) : Nat := l.countP fun r => decide (has r x y)
theorem cnt_filter (l : List S30) (x y : Int) : cnt (l.filter ne) x y = cnt l x y := by
  unfold cnt
  rw [List.countP_filter]
  apply List.countP_congr
  intro r _
  have : has r x y → ¬ emp r := by unfold has emp; omega
  simp only [Bool.and_eq_true, decide_eq_true_eq, ne, Bool.not_eq_true', decide_eq_false_iff_not]
  exact ⟨fun h => h.1, fun h => ⟨h, this h⟩⟩
theorem cm_cases (a b : S30) : (cm a b = ⟨a.f0, a.f3, a.f2, a.f3⟩ ∧ ∀ x y, has a x y → ¬ has b x y) ∨
    (a.f0 ≤ (cm a b).f0 ∧ (cm a b).f0 < (cm a b).f2 ∧ (cm a b).f2 ≤ a.f2 ∧ a.f1 ≤ (cm a b).f1 ∧ (cm a b).f1 < (cm a b).f3 ∧ (cm a b).f3 ≤ a.f3 ∧ ∀ x y, has (cm a b) x y ↔ has a x y ∧ has b x y) := by
  unfold cm
  by_cases h : emp (meet a b)
  · rw [if_pos h]
    left
    refine ⟨rfl, fun x y h1 h2 => ?_⟩
    have h3 := (has_meet a b x y).2 ⟨h1, h2⟩
    unfold has at h3
    unfold emp at h
    omega
  · rw [if_neg h]
    right
    have hm := has_meet a b
    unfold emp at h
    have e0 := mx_or a.f0 b.f0; have e1 := mx_or a.f1 b.f1; have e2 := mn_or a.f2 b.f2; have e3 := mn_or a.f3 b.f3
    refine ⟨?_, by omega, ?_, ?_, by omega, ?_, hm⟩
    all_goals
      revert h
      unfold meet
      split
      · simp
      · simp only; omega
theorem cnt_pcs (a m : S30) (x y : Int) : cnt (pcs a m) x y =
    (if has ⟨a.f0, a.f1, a.f2, m.f1⟩ x y then 1 else 0) + (if has ⟨a.f0, m.f3, a.f2, a.f3⟩ x y then 1 else 0) +
    (if has ⟨a.f0, m.f1, m.f0, m.f3⟩ x y then 1 else 0) + (if has ⟨m.f2, m.f1, a.f2, m.f3⟩ x y then 1 else 0) := by
  unfold cnt pcs
  simp only [List.countP_cons, List.countP_nil, decide_eq_true_eq]
  omega
theorem cnt_cut (a b : S30) (x y : Int) : cnt (cut a b) x y = if has a x y ∧ ¬ has b x y then 1 else 0 := by
  unfold cut
  rw [cnt_filter, cnt_pcs]
  rcases cm_cases a b with ⟨e, h⟩ | ⟨h0, h1, h2, h3, h4, h5, h6⟩
  · rw [e]
    have h' := h x y
    by_cases hb : has b x y
    · have ha : ¬ has a x y := fun ha => h' ha hb
      simp only [ha, false_and, if_false]
      (repeat' split) <;> simp only [has] at * <;> omega
    · simp only [hb, not_false_eq_true, and_true]
      clear h h' hb e
      (repeat' split) <;> simp only [has] at * <;> omega
  · have h' := h6 x y
    clear h6
    by_cases ha : has a x y
    · by_cases hb : has b x y
      · have hm := h'.2 ⟨ha, hb⟩
        simp only [hb, not_true, and_false, if_false]
        clear h' ha hb
        (repeat' split) <;> simp only [has] at * <;> omega
      · have hm : ¬ has (cm a b) x y := fun hm => hb (h'.1 hm).2
        simp only [ha, hb, not_false_eq_true, and_true, if_true]
        clear h' hb
        (repeat' split) <;> simp only [has] at * <;> omega
    · simp only [ha, false_and, if_false]
      clear h'
      (repeat' split) <;> simp only [has] at * <;> omega

theorem rcut_eq (a b : S30) (k : Nat) (hk : 3 ≤ k) : decoupageref02_Cut.f k a.f0 a.f1 a.f2 a.f3 b.f0 b.f1 b.f2 b.f3 = some (cut a b) := by
  unfold decoupageref02_Cut.f
  rw [rmeet_eq a b k hk, rempty_eq]
  simp only [Option.bind_some]
  by_cases ha : emp a
  · rw [if_pos (by simpa using ha)]
    have hm : emp (meet a b) := by
      have e0 := mx_or a.f0 b.f0; have e1 := mx_or a.f1 b.f1; have e2 := mn_or a.f2 b.f2; have e3 := mn_or a.f3 b.f3
      unfold meet
      split
      · unfold emp; simp
      · rename_i h; unfold emp at h ha ⊢; simp only at h ⊢; omega
    unfold cut cm
    rw [if_pos hm]
    unfold emp at ha
    simp only [pcs, List.filter_cons, List.filter_nil, ne_eq, decide_eq_true_eq]
    repeat rw [if_neg (by omega)]
  rw [if_neg (by simpa using ha), rempty_eq (meet a b)]
  simp only [Option.bind_some]
  by_cases hm : emp (meet a b)
  · rw [if_pos (by simpa using hm)]
    unfold cut cm
    rw [if_pos hm]
    unfold emp at ha
    simp only [pcs, List.filter_cons, List.filter_nil, ne_eq, decide_eq_true_eq]
    rw [if_pos (by omega)]
    repeat rw [if_neg (by omega)]
  rw [if_neg (by simpa using hm)]
  obtain ⟨k, rfl⟩ : ∃ m, k = m + 2 := ⟨k - 2, by omega⟩
  have hc : cm a b = meet a b := by unfold cm; rw [if_neg hm]
  have hh := cm_cases a b
  rw [hc] at hh
  unfold cut
  rw [hc]
  generalize meet a b = m at hh hm ⊢
  have hi : a.f0 ≤ m.f0 ∧ m.f0 < m.f2 ∧ m.f2 ≤ a.f2 ∧ a.f1 ≤ m.f1 ∧ m.f1 < m.f3 ∧ m.f3 ≤ a.f3 := by
    rcases hh with ⟨e, _⟩ | ⟨h0, h1, h2, h3, h4, h5, _⟩
    · exfalso; rw [e] at hm; unfold emp at hm; simp at hm
    · exact ⟨h0, h1, h2, h3, h4, h5⟩
  clear hh hc
  unfold emp at ha hm
  have e1 : ne ⟨a.f0, a.f1, a.f2, m.f1⟩ = decide (a.f1 < m.f1) := by rw [ne_eq, decide_eq_decide]; simp only; omega
  have e2 : ne ⟨a.f0, m.f3, a.f2, a.f3⟩ = decide (m.f3 < a.f3) := by rw [ne_eq, decide_eq_decide]; simp only; omega
  have e3 : ne ⟨a.f0, m.f1, m.f0, m.f3⟩ = decide (a.f0 < m.f0) := by rw [ne_eq, decide_eq_decide]; simp only; omega
  have e4 : ne ⟨m.f2, m.f1, a.f2, m.f3⟩ = decide (m.f2 < a.f2) := by rw [ne_eq, decide_eq_decide]; simp only; omega
  simp only [pcs, List.filter_cons, List.filter_nil, e1, e2, e3, e4, decide_eq_true_eq, decoupageref02_Cut.j0, decoupageref02_Cut.j1]
  by_cases g1 : a.f1 < m.f1 <;> by_cases g2 : m.f3 < a.f3 <;> by_cases g3 : a.f0 < m.f0 <;> by_cases g4 : m.f2 < a.f2 <;> simp [g1, g2, g3, g4]

theorem samel (l2 : List S30) : ∀ (l1 : List S30) (k : Nat), l2.length < k → (l1 ++ l2).length ≤ 4611686018427387904 → decoupageref02_Same.l0 k (l1 ++ l2) (l1 ++ l2) ((l1 ++ l2).length : Int) (l1.length : Int) = some true := by
  induction l2 with
  | nil =>
    intro l1 k hk _
    obtain ⟨k, rfl⟩ : ∃ m, k = m + 1 := ⟨k - 1, by omega⟩
    simp only [decoupageref02_Same.l0]
    rw [if_neg (mid_ge _)]
  | cons x l2 ih =>
    intro l1 k hk hn
    obtain ⟨k, rfl⟩ : ∃ m, k = m + 1 := ⟨k - 1, by omega⟩
    simp only [List.length_cons] at hk
    simp only [decoupageref02_Same.l0]
    rw [if_pos (mid_lt _ _ _), if_pos (by omega), if_pos (mid_lt _ _ _), if_pos (mid_lt _ _ _), rd_mid, mid_next l1 x l2 hn]
    rw [mid_app] at hn ⊢
    simp only [beq_self_eq_true, Bool.not_true, Bool.or_self, Bool.false_eq_true, if_false]
    exact ih (l1 ++ [x]) k (by omega) hn
theorem same_refl (l : List S30) (k : Nat) (hk : l.length < k) (hn : l.length ≤ 4611686018427387904) : decoupageref02_Same.f k l l = some true := by
  unfold decoupageref02_Same.f
  rw [if_pos rfl]
  exact samel l [] k hk hn

theorem cutsl (a b : S30) (x y : Int) (K : Nat) (r : Option Bool) (l2 : List S30) : ∀ (l1 : List S30) (k n : Nat), l2.length + K < k → (l1 ++ l2).length ≤ 4611686018427387904 → n + l2.length ≤ 4611686018427387904 → (∀ r ∈ l2, ¬ emp r) →
    (∀ k', K ≤ k' → decoupagelaw02_RectCuts.l0 (k' + 1) x y (l1 ++ l2) ((n + cnt l2 x y : Nat) : Int) ((l1 ++ l2).length : Int) ((l1 ++ l2).length : Int) a.f0 a.f1 a.f2 a.f3 b.f0 b.f1 b.f2 b.f3 = r) →
    decoupagelaw02_RectCuts.l0 k x y (l1 ++ l2) (n : Int) ((l1 ++ l2).length : Int) (l1.length : Int) a.f0 a.f1 a.f2 a.f3 b.f0 b.f1 b.f2 b.f3 = r := by
  induction l2 with
  | nil =>
    intro l1 k n hk _ _ _ h
    obtain ⟨k, rfl⟩ : ∃ m, k = m + 1 := ⟨k - 1, by omega⟩
    have := h k (by simp at hk; omega)
    simpa [cnt] using this
  | cons q l2 ih =>
    intro l1 k n hk hn hc he h
    obtain ⟨k, rfl⟩ : ∃ m, k = m + 1 := ⟨k - 1, by omega⟩
    simp only [List.length_cons] at hk hc
    simp only [decoupagelaw02_RectCuts.l0]
    rw [if_pos (mid_lt _ _ _), if_pos (by omega), if_pos (mid_lt _ _ _), rd_mid, mid_next l1 q l2 hn, empty_eq, holds_eq]
    simp only [Option.bind_some]
    rw [if_neg (by simpa using he q (by simp))]
    rw [mid_app] at hn h ⊢
    by_cases hq : has q x y
    · rw [if_pos (by simpa using hq), w64 (by omega) (by omega), show ((n : Int) + 1) = ((n + 1 : Nat) : Int) by omega]
      refine ih (l1 ++ [q]) k (n + 1) (by omega) hn (by omega) (fun r hr => he r (by simp [hr])) (fun k' hk' => ?_)
      have := h k' hk'
      simp only [cnt, List.countP_cons, hq, decide_true, if_true] at this
      rw [show n + 1 + cnt l2 x y = n + (List.countP (fun r => decide (has r x y)) l2 + 1) by unfold cnt; omega]
      exact this
    · rw [if_neg (by simpa using hq)]
      refine ih (l1 ++ [q]) k n (by omega) hn (by omega) (fun r hr => he r (by simp [hr])) (fun k' hk' => ?_)
      have := h k' hk'
      simpa [cnt, List.countP_cons, hq] using this
theorem cut_len (a b : S30) : (cut a b).length ≤ 4 := List.length_filter_le ne (pcs a (cm a b))
theorem RectCuts : ∀ (a0 : S30) (a1 : S30) (a2 : Int) (a3 : Int), Q30 a0 → Q30 a1 → I64 a2 → I64 a3 → ∃ k, decoupagelaw02_RectCuts.f k a0.f0 a0.f1 a0.f2 a0.f3 a1.f0 a1.f1 a1.f2 a1.f3 a2 a3 = some true := by
  intro a b x y _ _ _ _
  refine ⟨20, ?_⟩
  have hl := cut_len a b
  unfold decoupagelaw02_RectCuts.f
  rw [awake_ok 20 (by omega), cut_eq a b 20 (by omega)]
  simp only [Option.bind_some, if_true]
  refine cutsl a b x y 10 (some true) (cut a b) [] 20 0 (by omega) (by simp; omega) (by omega) (fun r hr => ?_) (fun k' hk' => ?_)
  · unfold cut at hr
    have := (List.mem_filter.1 hr).2
    simpa [ne] using this
  · obtain ⟨k', rfl⟩ : ∃ m, k' = m + 1 := ⟨k' - 1, by omega⟩
    simp only [decoupagelaw02_RectCuts.l0]
    rw [if_neg (by simp), rholds_eq, rholds_eq]
    simp only [Option.bind_some, List.nil_append, Nat.zero_add, decoupagelaw02_RectCuts.j1]
    rw [rcut_eq a b _ (by omega)]
    simp only [Option.bind_some]
    rw [same_refl _ _ (by omega) (by omega), cnt_cut]
    by_cases h1 : has a x y <;> by_cases h2 : has b x y <;> simp [h1, h2]

end Go.Proofs.Ytmfmpfneekngaaa.Pure
