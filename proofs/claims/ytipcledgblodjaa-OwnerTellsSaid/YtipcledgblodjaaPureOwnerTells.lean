/- What is proved: Shows, Of and All give the specified results, and Seen what both rectangles have in common. Conditions: none. -/
import Derived.Test.YtipcledgblodjaaMOwnerTells
import Derived.Test.YtipcledgblodjaaOpens
namespace Go.Proofs.Ytipcledgblodjaa.Pure
open Go.RowKit Go.Proofs.Ytipcledgblodjaa.POwnerTells Go.Proofs.YtipcledgblodjaaW.PrintWords Go.Proofs.YtipcledgblodjaaW.PrintLast
set_option linter.unusedSimpArgs false
set_option linter.unusedVariables false
open Go.Proofs.Ytipcledgblodjaa.Opens

/-! ### A rectangle's points, in plain words -/
/-- No point is in it. -/
def emp (r : S24) : Prop := r.f0 ≥ r.f2 ∨ r.f1 ≥ r.f3
instance (r : S24) : Decidable (emp r) := by unfold emp; exact inferInstance
/-- A point is in it. -/
def has (r : S24) (x y : Int) : Prop := r.f0 ≤ x ∧ x < r.f2 ∧ r.f1 ≤ y ∧ y < r.f3
instance (r : S24) (x y : Int) : Decidable (has r x y) := by unfold has; exact inferInstance

theorem empty_eq (r : S24) : rect_Empty.f r.f0 r.f1 r.f2 r.f3 = some (decide (emp r)) := by
  unfold rect_Empty.f emp
  by_cases h : r.f0 ≥ r.f2
  · rw [if_pos h]; simp [h]
  · rw [if_neg h]; simp [h]

theorem holds_eq (r : S24) (x y : Int) : rect_Holds.f r.f0 r.f1 r.f2 r.f3 x y = some (decide (has r x y)) := by
  unfold rect_Holds.f has
  by_cases h1 : x ≥ r.f0
  · by_cases h2 : x < r.f2
    · by_cases h3 : y ≥ r.f1
      · rw [if_pos h1, if_pos h2, if_pos h3]; simp [h1, h2, h3]
      · rw [if_pos h1, if_pos h2, if_neg h3]; simp [h3]
    · rw [if_pos h1, if_neg h2]; simp [h2]
  · rw [if_neg h1]; simp [h1]

theorem rholds_eq (r : S24) (x y : Int) : decoupageref02_Holds.f r.f0 r.f1 r.f2 r.f3 x y = some (decide (has r x y)) := by
  unfold decoupageref02_Holds.f has
  by_cases h1 : r.f0 ≤ x
  · by_cases h2 : x < r.f2
    · by_cases h3 : r.f1 ≤ y
      · rw [if_pos h1, if_pos h2, if_pos h3]; simp [h1, h2, h3]
      · rw [if_pos h1, if_pos h2, if_neg h3]; simp [h3]
    · rw [if_pos h1, if_neg h2]; simp [h2]
  · rw [if_neg h1]; simp [h1]

theorem rempty_eq (r : S24) : decoupageref02_Empty.f r.f0 r.f1 r.f2 r.f3 = some (decide (emp r)) := by
  unfold decoupageref02_Empty.f
  rw [rholds_eq]
  simp only [Option.bind_some]
  by_cases h : emp r
  · have h1 : ¬ has r r.f0 r.f1 := by unfold emp at h; unfold has; omega
    simp [h, h1]
  · have h1 : has r r.f0 r.f1 := by unfold emp at h; unfold has; omega
    simp [h, h1]

/-- What two have in common. -/
def meet (a b : S24) : S24 :=
  if emp ⟨mx a.f0 b.f0, mx a.f1 b.f1, mn a.f2 b.f2, mn a.f3 b.f3⟩ then ⟨0, 0, 0, 0⟩ else ⟨mx a.f0 b.f0, mx a.f1 b.f1, mn a.f2 b.f2, mn a.f3 b.f3⟩
theorem meet_eq (a b : S24) : rect_Meet.f a.f0 a.f1 a.f2 a.f3 b.f0 b.f1 b.f2 b.f3 = some ((meet a b).f0, (meet a b).f1, (meet a b).f2, (meet a b).f3) := by
  unfold rect_Meet.f meet
  have h := empty_eq ⟨mx a.f0 b.f0, mx a.f1 b.f1, mn a.f2 b.f2, mn a.f3 b.f3⟩
  rw [h]
  simp only [Option.bind_some]
  by_cases h1 : emp ⟨mx a.f0 b.f0, mx a.f1 b.f1, mn a.f2 b.f2, mn a.f3 b.f3⟩
  · simp [h1]
  · simp [h1]
theorem mx_le {a b c : Int} : mx a b ≤ c ↔ a ≤ c ∧ b ≤ c := by unfold mx; split <;> omega
theorem lt_mn {a b c : Int} : c < mn a b ↔ c < a ∧ c < b := by unfold mn; split <;> omega
theorem mx_or (a b : Int) : mx a b = a ∧ b ≤ a ∨ mx a b = b ∧ a ≤ b := by unfold mx; split <;> omega
theorem mn_or (a b : Int) : mn a b = a ∧ a ≤ b ∨ mn a b = b ∧ b ≤ a := by unfold mn; split <;> omega
theorem has_meet (a b : S24) (x y : Int) : has (meet a b) x y ↔ has a x y ∧ has b x y := by
  unfold meet
  have e0 := mx_or a.f0 b.f0; have e1 := mx_or a.f1 b.f1; have e2 := mn_or a.f2 b.f2; have e3 := mn_or a.f3 b.f3
  split
  · rename_i h; unfold emp at h; unfold has; simp only at h ⊢; omega
  · rename_i h; unfold emp at h; unfold has; simp only at h ⊢; omega

theorem rmeet_eq (a b : S24) (k : Nat) (hk : 3 ≤ k) : decoupageref02_Meet.f k a.f0 a.f1 a.f2 a.f3 b.f0 b.f1 b.f2 b.f3 = some ((meet a b).f0, (meet a b).f1, (meet a b).f2, (meet a b).f3) := by
  obtain ⟨k, rfl⟩ : ∃ m, k = m + 3 := ⟨k - 3, by omega⟩
  have hE : ∀ p q r s : Int, decoupageref02_Empty.f p q r s = some (decide (emp ⟨p, q, r, s⟩)) := fun p q r s => rempty_eq ⟨p, q, r, s⟩
  unfold decoupageref02_Meet.f meet
  simp only [decoupageref02_Meet.j0, decoupageref02_Meet.j1, decoupageref02_Meet.j2, hE, Option.bind_some, mx, mn]
  simp only [gt_iff_lt]
  by_cases h0 : a.f0 < b.f0 <;> by_cases h1 : a.f1 < b.f1 <;> by_cases h2 : b.f2 < a.f2 <;> by_cases h3 : b.f3 < a.f3 <;>
    simp only [h0, h1, h2, h3, if_true, if_false] <;> split <;> simp_all

/-- Its numbers are whole numbers of their kinds. -/
def Q24 (x : S24) : Prop := I64 x.f0 ∧ I64 x.f1 ∧ I64 x.f2 ∧ I64 x.f3

/-! ### A loop over a list, place by place -/
theorem w64 {n : Int} (h1 : -9223372036854775808 ≤ n) (h2 : n ≤ 9223372036854775807) : wrap64 n = n := by unfold wrap64; omega
theorem mid_lt {α : Type} (l1 : List α) (x : α) (l2 : List α) : ((l1.length : Int) < ((l1 ++ x :: l2).length : Int)) := by simp; omega
theorem mid_ge {α : Type} (l1 : List α) : ¬ ((l1.length : Int) < ((l1 ++ []).length : Int)) := by simp
theorem mid_next {α : Type} (l1 : List α) (x : α) (l2 : List α) (h : (l1 ++ x :: l2).length ≤ 4611686018427387904) : wrap64 ((l1.length : Int) + 1) = ((l1 ++ [x]).length : Int) := by
  simp at h ⊢
  rw [w64 (by omega) (by omega)]
theorem mid_app {α : Type} (l1 : List α) (x : α) (l2 : List α) : l1 ++ x :: l2 = (l1 ++ [x]) ++ l2 := by simp

/-! ### Items: who shows at a point -/
/-- Its numbers are whole numbers of their kinds. -/
def Q26 (x : S26) : Prop := I64 x.f0 ∧ I64 x.f1 ∧ Q24 x.f2 ∧ Q24 x.f3 ∧ Q24 x.f4 ∧ I64 x.f5
/-- An item shows at a point. -/
def shows (i : S26) (x y : Int) : Prop := has i.f2 x y ∧ has i.f4 x y ∧ (i.f1 = 1 → ¬ has i.f3 x y)
instance (i : S26) (x y : Int) : Decidable (shows i x y) := by unfold shows; exact inferInstance
theorem rdi (l : List S26) (n : Nat) : rd_T26 l (n : Int) = l.getD n z26 := by unfold rd_T26; simp
theorem rdi_mid (l1 : List S26) (x : S26) (l2 : List S26) : rd_T26 (l1 ++ x :: l2) (l1.length : Int) = x := by unfold rd_T26; simp
/-- Of the first n the last one that shows. -/
def ownAt (l : List S26) (x y : Int) : Nat → Option Nat
  | 0 => none
  | n + 1 => if shows (l.getD n z26) x y then some n else ownAt l x y n
theorem ownAt_lt (l : List S26) (x y : Int) : ∀ n m, ownAt l x y n = some m → m < n ∧ shows (l.getD m z26) x y ∧ ∀ j, m < j → j < n → ¬ shows (l.getD j z26) x y
  | 0, m, h => by simp [ownAt] at h
  | n + 1, m, h => by
    unfold ownAt at h
    split at h
    · rename_i hs
      obtain rfl := Option.some.inj h
      exact ⟨by omega, hs, fun j h1 h2 => by omega⟩
    · rename_i hs
      obtain ⟨h1, h2, h3⟩ := ownAt_lt l x y n m h
      refine ⟨by omega, h2, fun j h4 h5 => ?_⟩
      rcases Nat.lt_or_ge j n with h6 | h6
      · exact h3 j h4 h6
      · obtain rfl : j = n := by omega
        exact hs
theorem ownAt_none (l : List S26) (x y : Int) : ∀ n, ownAt l x y n = none → ∀ j, j < n → ¬ shows (l.getD j z26) x y
  | 0, _, j, hj => by omega
  | n + 1, h, j, hj => by
    unfold ownAt at h
    split at h
    · cases h
    · rename_i hs
      rcases Nat.lt_or_ge j n with h6 | h6
      · exact ownAt_none l x y n h j h6
      · obtain rfl : j = n := by omega
        exact hs
theorem ownAt_app (l l2 : List S26) (x y : Int) : ∀ n, n ≤ l.length → ownAt (l ++ l2) x y n = ownAt l x y n
  | 0, _ => rfl
  | n + 1, h => by
    unfold ownAt
    have e : (l ++ l2).getD n z26 = l.getD n z26 := by
      simp only [List.getD_eq_getElem?_getD]
      rw [List.getElem?_append_left (by omega)]
    rw [e, ownAt_app l l2 x y n (by omega)]
/-- Who owns a point. -/
def ownr (l : List S26) (x y : Int) : Option Nat := ownAt l x y l.length
theorem ownr_snoc (l : List S26) (i : S26) (x y : Int) : ownr (l ++ [i]) x y = if shows i x y then some l.length else ownr l x y := by
  unfold ownr
  rw [List.length_append, List.length_singleton]
  show (if _ then _ else _) = _
  have e : (l ++ [i]).getD l.length z26 = i := by simp
  rw [e, ownAt_app l [i] x y l.length (Nat.le_refl _)]
theorem ownr_lt {l : List S26} {x y : Int} {m : Nat} (h : ownr l x y = some m) : m < l.length := (ownAt_lt l x y _ m h).1

theorem shows_eq (i : S26) (x y : Int) : owner_Shows.f i.f0 i.f1 i.f2.f0 i.f2.f1 i.f2.f2 i.f2.f3 i.f3.f0 i.f3.f1 i.f3.f2 i.f3.f3 i.f4.f0 i.f4.f1 i.f4.f2 i.f4.f3 i.f5 x y = some (decide (shows i x y)) := by
  unfold owner_Shows.f
  rw [holds_eq, holds_eq, holds_eq]
  simp only [Option.bind_some]
  unfold shows
  by_cases h1 : has i.f2 x y <;> by_cases h2 : has i.f4 x y <;> by_cases h3 : i.f1 = 1 <;> by_cases h4 : has i.f3 x y <;> simp [h1, h2, h3, h4]

theorem ofl (l : List S26) (x y : Int) (hl : l.length ≤ 4611686018427387904) : ∀ (n k : Nat), n < k → n ≤ l.length →
    owner_Of.l0 k l x y ((n : Int) - 1) = some (match ownAt l x y n with | some m => ((m : Int), true) | none => (0, false))
  | 0, k, hk, _ => by
    obtain ⟨k, rfl⟩ : ∃ m, k = m + 1 := ⟨k - 1, by omega⟩
    simp only [owner_Of.l0]
    rw [if_neg (by omega)]
    rfl
  | n + 1, k, hk, hn => by
    obtain ⟨k, rfl⟩ : ∃ m, k = m + 1 := ⟨k - 1, by omega⟩
    have e : ((n + 1 : Nat) : Int) - 1 = (n : Int) := by omega
    rw [e]
    simp only [owner_Of.l0]
    rw [if_pos (by omega), if_pos (by omega), if_pos (by omega), rdi, shows_eq, w64 (by omega) (by omega)]
    simp only [Option.bind_some]
    unfold ownAt
    by_cases hs : shows (l.getD n z26) x y
    · rw [if_pos (by simpa using hs), if_pos hs]
    · rw [if_neg (by simpa using hs), if_neg hs]
      exact ofl l x y hl n k (by omega) (by omega)
theorem of_eq (l : List S26) (x y : Int) (k : Nat) (hk : l.length < k) (hl : l.length ≤ 4611686018427387904) :
    owner_Of.f k l x y = some (match ownr l x y with | some m => ((m : Int), true) | none => (0, false)) := by
  unfold owner_Of.f
  rw [w64 (by omega) (by omega)]
  exact ofl l x y hl l.length k hk (Nat.le_refl _)

theorem rshows_eq (i : S26) (x y : Int) : decoupageref26_Shows.f i.f0 i.f1 i.f2.f0 i.f2.f1 i.f2.f2 i.f2.f3 i.f3.f0 i.f3.f1 i.f3.f2 i.f3.f3 i.f4.f0 i.f4.f1 i.f4.f2 i.f4.f3 i.f5 x y = some (decide (shows i x y)) := by
  unfold decoupageref26_Shows.f
  rw [rholds_eq, rholds_eq, rholds_eq]
  simp only [Option.bind_some]
  unfold shows
  by_cases h1 : has i.f2 x y <;> by_cases h2 : has i.f4 x y <;> by_cases h3 : i.f1 = 1 <;> by_cases h4 : has i.f3 x y <;> simp [h1, h2, h3, h4]

/-- Those of the first n that show, the last one first. -/
def allAt (l : List S26) (x y : Int) : Nat → List Int
  | 0 => []
  | n + 1 => if shows (l.getD n z26) x y then (n : Int) :: allAt l x y n else allAt l x y n
theorem allAt_len (l : List S26) (x y : Int) : ∀ n, (allAt l x y n).length ≤ n
  | 0 => by simp [allAt]
  | n + 1 => by
    unfold allAt
    have := allAt_len l x y n
    split
    · simp; omega
    · omega
theorem alll (l : List S26) (x y : Int) (hl : l.length ≤ 1000000) : ∀ (n k : Nat) (acc : List Int), n < k → n ≤ l.length → acc.length + n ≤ 1000000 →
    owner_All.l0 k l x y acc ((n : Int) - 1) = some (acc ++ allAt l x y n)
  | 0, k, acc, hk, _, _ => by
    obtain ⟨k, rfl⟩ : ∃ m, k = m + 1 := ⟨k - 1, by omega⟩
    simp only [owner_All.l0]
    rw [if_neg (by omega)]
    simp [allAt]
  | n + 1, k, acc, hk, hn, ha => by
    obtain ⟨k, rfl⟩ : ∃ m, k = m + 1 := ⟨k - 1, by omega⟩
    have e : ((n + 1 : Nat) : Int) - 1 = (n : Int) := by omega
    rw [e]
    simp only [owner_All.l0]
    rw [if_pos (by omega), if_pos (by omega), if_pos (by omega), rdi, shows_eq, w64 (by omega) (by omega)]
    simp only [Option.bind_some]
    unfold allAt
    by_cases hs : shows (l.getD n z26) x y
    · rw [if_pos (by simpa using hs), if_pos hs, if_pos (by omega), alll l x y hl n k (acc ++ [(n : Int)]) (by omega) (by omega) (by simp; omega)]
      simp
    · rw [if_neg (by simpa using hs), if_neg hs, alll l x y hl n k acc (by omega) (by omega) (by omega)]
theorem all_eq (l : List S26) (x y : Int) (k : Nat) (hk : l.length < k) (hl : l.length ≤ 1000000) : owner_All.f k l x y = some (allAt l x y l.length) := by
  unfold owner_All.f
  rw [w64 (by omega) (by omega), alll l x y hl l.length k [] hk (Nat.le_refl _) (by simp; omega)]
  simp

/-- The owner's place, or -1. -/
def ownI : Option Nat → Int
  | some m => (m : Int)
  | none => -1
theorem rownl (l : List S26) (x y : Int) (hl : l.length ≤ 4611686018427387904) : ∀ (d n k : Nat), n + d = l.length → d < k →
    decoupageref26_Owner.l0 k l x y (ownI (ownAt l x y n)) (l.length : Int) (n : Int) = some (ownI (ownr l x y))
  | 0, n, k, hn, hk => by
    obtain ⟨k, rfl⟩ : ∃ m, k = m + 1 := ⟨k - 1, by omega⟩
    obtain rfl : n = l.length := by omega
    simp only [decoupageref26_Owner.l0]
    rw [if_neg (by omega)]
    rfl
  | d + 1, n, k, hn, hk => by
    obtain ⟨k, rfl⟩ : ∃ m, k = m + 1 := ⟨k - 1, by omega⟩
    simp only [decoupageref26_Owner.l0]
    have e : wrap64 ((n : Int) + 1) = ((n + 1 : Nat) : Int) := by rw [w64 (by omega) (by omega)]; omega
    rw [if_pos (by omega), if_pos (by omega), if_pos (by omega), rdi, rshows_eq, e]
    simp only [Option.bind_some]
    have ih := rownl l x y hl d (n + 1) k (by omega) (by omega)
    simp only [ownAt] at ih
    by_cases hs : shows (l.getD n z26) x y
    · rw [if_pos (by simpa using hs)]
      rw [if_pos hs] at ih
      exact ih
    · rw [if_neg (by simpa using hs)]
      rw [if_neg hs] at ih
      exact ih
theorem rown_eq (l : List S26) (x y : Int) (k : Nat) (hk : l.length < k) (hl : l.length ≤ 4611686018427387904) : decoupageref26_Owner.f k l x y = some (ownI (ownr l x y)) := by
  unfold decoupageref26_Owner.f
  exact rownl l x y hl l.length 0 k (by omega) hk

theorem ralll (l : List S26) (x y : Int) (hl : l.length ≤ 1000000) : ∀ (d n k : Nat), n + d = l.length → d < k →
    decoupageref26_All.l0 k l x y (allAt l x y n) (l.length : Int) (n : Int) = some (allAt l x y l.length)
  | 0, n, k, hn, hk => by
    obtain ⟨k, rfl⟩ : ∃ m, k = m + 1 := ⟨k - 1, by omega⟩
    obtain rfl : n = l.length := by omega
    simp only [decoupageref26_All.l0]
    rw [if_neg (by omega)]
  | d + 1, n, k, hn, hk => by
    obtain ⟨k, rfl⟩ : ∃ m, k = m + 1 := ⟨k - 1, by omega⟩
    simp only [decoupageref26_All.l0]
    have e : wrap64 ((n : Int) + 1) = ((n + 1 : Nat) : Int) := by rw [w64 (by omega) (by omega)]; omega
    have ha := allAt_len l x y n
    rw [if_pos (by omega), if_pos (by omega), if_pos (by omega), rdi, rshows_eq, e]
    simp only [Option.bind_some]
    have ih := ralll l x y hl d (n + 1) k (by omega) (by omega)
    simp only [allAt] at ih
    by_cases hs : shows (l.getD n z26) x y
    · rw [if_pos (by simpa using hs), if_pos (by simp; omega)]
      rw [if_pos hs] at ih
      exact ih
    · rw [if_neg (by simpa using hs)]
      rw [if_neg hs] at ih
      exact ih
theorem rall_eq (l : List S26) (x y : Int) (k : Nat) (hk : l.length < k) (hl : l.length ≤ 1000000) : decoupageref26_All.f k l x y = some (allAt l x y l.length) := by
  unfold decoupageref26_All.f
  exact ralll l x y hl l.length 0 k (by omega) hk

theorem rd_mid_i (l1 : List Int) (x : Int) (l2 : List Int) : rd (l1 ++ x :: l2) (l1.length : Int) = x := by unfold rd; simp
theorem sameil (l2 : List Int) : ∀ (l1 : List Int) (k : Nat), l2.length < k → (l1 ++ l2).length ≤ 4611686018427387904 → decoupageref08_Same.l0 k (l1 ++ l2) (l1 ++ l2) ((l1 ++ l2).length : Int) (l1.length : Int) = some true := by
  induction l2 with
  | nil =>
    intro l1 k hk _
    obtain ⟨k, rfl⟩ : ∃ m, k = m + 1 := ⟨k - 1, by omega⟩
    simp only [decoupageref08_Same.l0]
    rw [if_neg (mid_ge _)]
  | cons x l2 ih =>
    intro l1 k hk hn
    obtain ⟨k, rfl⟩ : ∃ m, k = m + 1 := ⟨k - 1, by omega⟩
    simp only [List.length_cons] at hk
    simp only [decoupageref08_Same.l0]
    rw [if_pos (mid_lt _ _ _), if_pos (by omega), if_pos (mid_lt _ _ _), if_pos (mid_lt _ _ _), if_true, mid_next l1 x l2 hn]
    rw [mid_app] at hn ⊢
    exact ih (l1 ++ [x]) k (by omega) hn
theorem samei_refl (l : List Int) (k : Nat) (hk : l.length < k) (hn : l.length ≤ 4611686018427387904) : decoupageref08_Same.f k l l = some true := by
  unfold decoupageref08_Same.f
  rw [if_pos rfl]
  exact sameil l [] k hk hn

/-- What may be seen of an item. -/
def seen (i : S26) : S24 := meet i.f2 i.f4
theorem seen_eq (i : S26) : owner_Seen.f i.f0 i.f1 i.f2.f0 i.f2.f1 i.f2.f2 i.f2.f3 i.f3.f0 i.f3.f1 i.f3.f2 i.f3.f3 i.f4.f0 i.f4.f1 i.f4.f2 i.f4.f3 i.f5 = some ((seen i).f0, (seen i).f1, (seen i).f2, (seen i).f3) := by
  unfold owner_Seen.f seen
  rw [meet_eq]
  rfl

theorem awake_ok (k : Nat) (hk : 8 ≤ k) : decoupagelaw26_awake.f k = some true :=
  at_rounds (g := fun k => decoupagelaw26_awake.f k) (fun k => decoupagelaw26_awake.mono k) hk (by decide +kernel)

theorem tellsl (x y : Int) (l2 : List S26) : ∀ (l1 : List S26) (k : Nat), l2.length + 4 < k → (l1 ++ l2).length ≤ 4611686018427387904 →
    decoupagelaw26_OwnerTells.l0 k (l1 ++ l2) x y ((l1 ++ l2).length : Int) (l1.length : Int) = some true := by
  induction l2 with
  | nil =>
    intro l1 k hk _
    obtain ⟨k, rfl⟩ : ∃ m, k = m + 1 := ⟨k - 1, by omega⟩
    simp only [decoupagelaw26_OwnerTells.l0]
    rw [if_neg (mid_ge _)]
  | cons i l2 ih =>
    intro l1 k hk hn
    obtain ⟨k, rfl⟩ : ∃ m, k = m + 1 := ⟨k - 1, by omega⟩
    simp only [List.length_cons] at hk
    simp only [decoupagelaw26_OwnerTells.l0]
    rw [if_pos (mid_lt _ _ _), if_pos (by omega), if_pos (mid_lt _ _ _), rdi_mid, mid_next l1 i l2 hn, shows_eq, rshows_eq, seen_eq, rmeet_eq _ _ k (by omega)]
    simp only [Option.bind_some, bne_self_eq_false, Bool.false_eq_true, if_false, seen, beq_self_eq_true, Bool.not_true, Bool.or_self]
    rw [mid_app] at hn ⊢
    exact ih (l1 ++ [i]) k (by omega) hn
theorem OwnerTells : ∀ (l0 : List S26) (a1 : Int) (a2 : Int), (∀ x ∈ l0, Q26 x) → I64 a1 → I64 a2 → ∃ k, decoupagelaw26_OwnerTells.f k l0 a1 a2 = some true := by
  intro l x y _ _ _
  refine ⟨200, ?_⟩
  unfold decoupagelaw26_OwnerTells.f
  rw [awake_ok 200 (by omega)]
  simp only [Option.bind_some, if_true, decoupagelaw26_OwnerTells.j0]
  by_cases hl : (l.length : Int) > 100
  · rw [if_pos (by simpa using hl), awake_ok 199 (by omega)]; rfl
  have ha := allAt_len l x y l.length
  rw [if_neg (by simpa using hl), of_eq l x y 199 (by omega) (by omega), rown_eq l x y 199 (by omega) (by omega), all_eq l x y 199 (by omega) (by omega), rall_eq l x y 199 (by omega) (by omega)]
  simp only [Option.bind_some]
  rw [samei_refl _ 199 (by omega) (by omega)]
  have hj : decoupagelaw26_OwnerTells.j1 199 l x y false = some true := by
    simp only [decoupagelaw26_OwnerTells.j1]
    rw [if_neg (by decide)]
    exact tellsl x y l [] 198 (by omega) (by simp; omega)
  cases h : ownr l x y with
  | none =>
    simp only [ownI, Option.bind_some, Bool.not_true]
    rw [if_neg (by decide), if_pos (by decide)]
    exact hj
  | some m =>
    simp only [ownI, Option.bind_some, Bool.not_true]
    rw [if_neg (by simp), if_pos (by unfold mx; split <;> omega)]
    exact hj

end Go.Proofs.Ytipcledgblodjaa.Pure
