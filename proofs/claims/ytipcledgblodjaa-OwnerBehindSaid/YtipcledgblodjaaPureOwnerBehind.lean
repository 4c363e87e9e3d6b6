/- What is proved: An appended item owns exactly the points that it covers. Conditions: none. -/
import Derived.Test.YtipcledgblodjaaPOwnerBehindx
import Derived.Test.YtipcledgblodjaaOpens
namespace Go.Proofs.Ytipcledgblodjaa.Pure
open Go.RowKit Go.Proofs.Ytipcledgblodjaa.POwnerBehind Go.Proofs.YtipcledgblodjaaW.PrintWords Go.Proofs.YtipcledgblodjaaW.PrintLast
set_option linter.unusedSimpArgs false
set_option linter.unusedVariables false
open Go.Proofs.Ytipcledgblodjaa.Opens

/-! ### A rectangle's points, in plain words -/
/-- No point is in it. -/
def emp (r : S24) : Prop := r.f0 ≥ r.f2 ∨ r.f1 ≥ r.f3
instance (r : S24) : Decidable (emp r) := by unfold emp; exact inferInstance
/-- A point is in it. -/
def has (r : S24) (x y : Int) : Prop := r.f0 ≤ x ∧ x < r.f2 ∧ r.f1 ≤ y ∧ y < r.f3
instance (r : S24) (x y : Int) : Decidable (has r x y) := by unfold has; exact inferInstance

theorem holds_eq (r : S24) (x y : Int) : rect_Holds.f r.f0 r.f1 r.f2 r.f3 x y = some (decide (has r x y)) := by
  unfold rect_Holds.f has
  by_cases h1 : x ≥ r.f0
  · by_cases h2 : x < r.f2
    · by_cases h3 : y ≥ r.f1
      · rw [if_pos h1, if_pos h2, if_pos h3]; simp [h1, h2, h3]
      · rw [if_pos h1, if_pos h2, if_neg h3]; simp [h3]
    · rw [if_pos h1, if_neg h2]; simp [h2]
  · rw [if_neg h1]; simp [h1]

theorem rholds_eq (r : S24) (x y : Int) : decoupageref02_Holds.f r.f0 r.f1 r.f2 r.f3 x y = some (decide (has r x y)) := by
  unfold decoupageref02_Holds.f has
  by_cases h1 : r.f0 ≤ x
  · by_cases h2 : x < r.f2
    · by_cases h3 : r.f1 ≤ y
      · rw [if_pos h1, if_pos h2, if_pos h3]; simp [h1, h2, h3]
      · rw [if_pos h1, if_pos h2, if_neg h3]; simp [h3]
    · rw [if_pos h1, if_neg h2]; simp [h2]
  · rw [if_neg h1]; simp [h1]

/-- Its numbers are whole numbers of their kinds. -/
def Q24 (x : S24) : Prop := I64 x.f0 ∧ I64 x.f1 ∧ I64 x.f2 ∧ I64 x.f3

/-! ### A loop over a list, place by place -/
theorem w64 {n : Int} (h1 : -9223372036854775808 ≤ n) (h2 : n ≤ 9223372036854775807) : wrap64 n = n := by unfold wrap64; omega
theorem mid_lt {α : Type} (l1 : List α) (x : α) (l2 : List α) : ((l1.length : Int) < ((l1 ++ x :: l2).length : Int)) := by simp; omega
theorem mid_ge {α : Type} (l1 : List α) : ¬ ((l1.length : Int) < ((l1 ++ []).length : Int)) := by simp
theorem mid_next {α : Type} (l1 : List α) (x : α) (l2 : List α) (h : (l1 ++ x :: l2).length ≤ 4611686018427387904) : wrap64 ((l1.length : Int) + 1) = ((l1 ++ [x]).length : Int) := by
  simp at h ⊢
  rw [w64 (by omega) (by omega)]
theorem mid_app {α : Type} (l1 : List α) (x : α) (l2 : List α) : l1 ++ x :: l2 = (l1 ++ [x]) ++ l2 := by simp

/-! ### Items: who shows at a point -/
/-- Its numbers are whole numbers of their kinds. -/
def Q26 (x : S26) : Prop := I64 x.f0 ∧ I64 x.f1 ∧ Q24 x.f2 ∧ Q24 x.f3 ∧ Q24 x.f4 ∧ I64 x.f5
/-- An item shows at a point. -/
def shows (i : S26) (x y : Int) : Prop := has i.f2 x y ∧ has i.f4 x y ∧ (i.f1 = 1 → ¬ has i.f3 x y)
instance (i : S26) (x y : Int) : Decidable (shows i x y) := by unfold shows; exact inferInstance
theorem rdi (l : List S26) (n : Nat) : rd_T26 l (n : Int) = l.getD n z26 := by unfold rd_T26; simp
theorem rdi_mid (l1 : List S26) (x : S26) (l2 : List S26) : rd_T26 (l1 ++ x :: l2) (l1.length : Int) = x := by unfold rd_T26; simp
/-- Of the first n the last one that shows. -/
def ownAt (l : List S26) (x y : Int) : Nat → Option Nat
  | 0 => none
  | n + 1 => if shows (l.getD n z26) x y then some n else ownAt l x y n
theorem ownAt_lt (l : List S26) (x y : Int) : ∀ n m, ownAt l x y n = some m → m < n ∧ shows (l.getD m z26) x y ∧ ∀ j, m < j → j < n → ¬ shows (l.getD j z26) x y
  | 0, m, h => by simp [ownAt] at h
  | n + 1, m, h => by
    unfold ownAt at h
    split at h
    · rename_i hs
      obtain rfl := Option.some.inj h
      exact ⟨by omega, hs, fun j h1 h2 => by omega⟩
    · rename_i hs
      obtain ⟨h1, h2, h3⟩ := ownAt_lt l x y n m h
      refine ⟨by omega, h2, fun j h4 h5 => ?_⟩
      rcases Nat.lt_or_ge j n with h6 | h6
      · exact h3 j h4 h6
      · obtain rfl : j = n := by omega
        exact hs
theorem ownAt_none (l : List S26) (x y : Int) : ∀ n, ownAt l x y n = none → ∀ j, j < n → ¬ shows (l.getD j z26) x y
  | 0, _, j, hj => by omega
  | n + 1, h, j, hj => by
    unfold ownAt at h
    split at h
    · cases h
    · rename_i hs
      rcases Nat.lt_or_ge j n with h6 | h6
      · exact ownAt_none l x y n h j h6
      · obtain rfl : j = n := by omega
        exact hs
theorem ownAt_app (l l2 : List S26) (x y : Int) : ∀ n, n ≤ l.length → ownAt (l ++ l2) x y n = ownAt l x y n
  | 0, _ => rfl
  | n + 1, h => by
    unfold ownAt
    have e : (l ++ l2).getD n z26 = l.getD n z26 := by
      simp only [List.getD_eq_getElem?_getD]
      rw [List.getElem?_append_left (by omega)]
    rw [e, ownAt_app l l2 x y n (by omega)]
/-- Who owns a point. -/
def ownr (l : List S26) (x y : Int) : Option Nat := ownAt l x y l.length
theorem ownr_snoc (l : List S26) (i : S26) (x y : Int) : ownr (l ++ [i]) x y = if shows i x y then some l.length else ownr l x y := by
  unfold ownr
  rw [List.length_append, List.length_singleton]
  show (if _ then _ else _) = _
  have e : (l ++ [i]).getD l.length z26 = i := by simp
  rw [e, ownAt_app l [i] x y l.length (Nat.le_refl _)]
theorem ownr_lt {l : List S26} {x y : Int} {m : Nat} (h : ownr l x y = some m) : m < l.length := (ownAt_lt l x y _ m h).1

theorem shows_eq (i : S26) (x y : Int) : owner_Shows.f i.f0 i.f1 i.f2.f0 i.f2.f1 i.f2.f2 i.f2.f3 i.f3.f0 i.f3.f1 i.f3.f2 i.f3.f3 i.f4.f0 i.f4.f1 i.f4.f2 i.f4.f3 i.f5 x y = some (decide (shows i x y)) := by
  unfold owner_Shows.f
  rw [holds_eq, holds_eq, holds_eq]
  simp only [Option.bind_some]
  unfold shows
  by_cases h1 : has i.f2 x y <;> by_cases h2 : has i.f4 x y <;> by_cases h3 : i.f1 = 1 <;> by_cases h4 : has i.f3 x y <;> simp [h1, h2, h3, h4]

theorem ofl (l : List S26) (x y : Int) (hl : l.length ≤ 4611686018427387904) : ∀ (n k : Nat), n < k → n ≤ l.length →
    owner_Of.l0 k l x y ((n : Int) - 1) = some (match ownAt l x y n with | some m => ((m : Int), true) | none => (0, false))
  | 0, k, hk, _ => by
    obtain ⟨k, rfl⟩ : ∃ m, k = m + 1 := ⟨k - 1, by omega⟩
    simp only [owner_Of.l0]
    rw [if_neg (by omega)]
    rfl
  | n + 1, k, hk, hn => by
    obtain ⟨k, rfl⟩ : ∃ m, k = m + 1 := ⟨k - 1, by omega⟩
    have e : ((n + 1 : Nat) : Int) - 1 = (n : Int) := by omega
    rw [e]
    simp only [owner_Of.l0]
    rw [if_pos (by omega), if_pos (by omega), if_pos (by omega), rdi, shows_eq, w64 (by omega) (by omega)]
    simp only [Option.bind_some]
    unfold ownAt
    by_cases hs : shows (l.getD n z26) x y
    · rw [if_pos (by simpa using hs), if_pos hs]
    · rw [if_neg (by simpa using hs), if_neg hs]
      exact ofl l x y hl n k (by omega) (by omega)
theorem of_eq (l : List S26) (x y : Int) (k : Nat) (hk : l.length < k) (hl : l.length ≤ 4611686018427387904) :
    owner_Of.f k l x y = some (match ownr l x y with | some m => ((m : Int), true) | none => (0, false)) := by
  unfold owner_Of.f
  rw [w64 (by omega) (by omega)]
  exact ofl l x y hl l.length k hk (Nat.le_refl _)

theorem rshows_eq (i : S26) (x y : Int) : decoupageref26_Shows.f i.f0 i.f1 i.f2.f0 i.f2.f1 i.f2.f2 i.f2.f3 i.f3.f0 i.f3.f1 i.f3.f2 i.f3.f3 i.f4.f0 i.f4.f1 i.f4.f2 i.f4.f3 i.f5 x y = some (decide (shows i x y)) := by
  unfold decoupageref26_Shows.f
  rw [rholds_eq, rholds_eq, rholds_eq]
  simp only [Option.bind_some]
  unfold shows
  by_cases h1 : has i.f2 x y <;> by_cases h2 : has i.f4 x y <;> by_cases h3 : i.f1 = 1 <;> by_cases h4 : has i.f3 x y <;> simp [h1, h2, h3, h4]

theorem awake_ok (k : Nat) (hk : 8 ≤ k) : decoupagelaw26_awake.f k = some true :=
  at_rounds (g := fun k => decoupagelaw26_awake.f k) (fun k => decoupagelaw26_awake.mono k) hk (by decide +kernel)

theorem OwnerBehind : ∀ (l0 : List S26) (a1 : S26) (a2 : Int) (a3 : Int), (∀ x ∈ l0, Q26 x) → Q26 a1 → I64 a2 → I64 a3 → ∃ k, decoupagelaw26_OwnerBehind.f k l0 a1.f0 a1.f1 a1.f2.f0 a1.f2.f1 a1.f2.f2 a1.f2.f3 a1.f3.f0 a1.f3.f1 a1.f3.f2 a1.f3.f3 a1.f4.f0 a1.f4.f1 a1.f4.f2 a1.f4.f3 a1.f5 a2 a3 = some true := by
  intro l i x y _ _ _ _
  refine ⟨100, ?_⟩
  unfold decoupagelaw26_OwnerBehind.f
  rw [awake_ok 100 (by omega)]
  simp only [Option.bind_some, if_true, decoupagelaw26_OwnerBehind.j0]
  by_cases hl : (l.length : Int) > 60
  · rw [if_pos (by simpa using hl), awake_ok 99 (by omega)]; rfl
  rw [if_neg (by simpa using hl), of_eq l x y 99 (by omega) (by omega), rshows_eq]
  simp only [Option.bind_some, List.nil_append, List.length_nil, List.length_singleton]
  rw [if_pos (by omega), if_pos (by omega), of_eq (l ++ [i]) x y 99 (by simp; omega) (by simp; omega), ownr_snoc]
  simp only [Option.bind_some]
  by_cases hs : shows i x y
  · simp [hs]
  · simp [hs]

end Go.Proofs.Ytipcledgblodjaa.Pure
