/- What is proved: The owner is the first of All. Conditions: none. -/
import Derived.Test.YtipcledgblodjaaMOwnerAll
import Derived.Test.YtipcledgblodjaaOpens
namespace Go.Proofs.Ytipcledgblodjaa.Pure
open Go.RowKit Go.Proofs.Ytipcledgblodjaa.POwnerAll Go.Proofs.YtipcledgblodjaaW.PrintWords Go.Proofs.YtipcledgblodjaaW.PrintLast
set_option linter.unusedSimpArgs false
set_option linter.unusedVariables false
open Go.Proofs.Ytipcledgblodjaa.Opens

/-! ### A rectangle's points, in plain words -/
/-- No point is in it. -/
def emp (r : S24) : Prop := r.f0 ≥ r.f2 ∨ r.f1 ≥ r.f3
instance (r : S24) : Decidable (emp r) := by unfold emp; exact inferInstance
/-- A point is in it. -/
def has (r : S24) (x y : Int) : Prop := r.f0 ≤ x ∧ x < r.f2 ∧ r.f1 ≤ y ∧ y < r.f3
instance (r : S24) (x y : Int) : Decidable (has r x y) := by unfold has; exact inferInstance

theorem holds_eq (r : S24) (x y : Int) : rect_Holds.f r.f0 r.f1 r.f2 r.f3 x y = some (decide (has r x y)) := by
  unfold rect_Holds.f has
  by_cases h1 : x ≥ r.f0
  · by_cases h2 : x < r.f2
    · by_cases h3 : y ≥ r.f1
      · rw [if_pos h1, if_pos h2, if_pos h3]; simp [h1, h2, h3]
      · rw [if_pos h1, if_pos h2, if_neg h3]; simp [h3]
    · rw [if_pos h1, if_neg h2]; simp [h2]
  · rw [if_neg h1]; simp [h1]

/-- Its numbers are whole numbers of their kinds. -/
def Q24 (x : S24) : Prop := I64 x.f0 ∧ I64 x.f1 ∧ I64 x.f2 ∧ I64 x.f3

/-! ### A loop over a list, place by place -/
theorem w64 {n : Int} (h1 : -9223372036854775808 ≤ n) (h2 : n ≤ 9223372036854775807) : wrap64 n = n := by unfold wrap64; omega
theorem mid_lt {α : Type} (l1 : List α) (x : α) (l2 : List α) : ((l1.length : Int) < ((l1 ++ x :: l2).length : Int)) := by simp; omega
theorem mid_ge {α : Type} (l1 : List α) : ¬ ((l1.length : Int) < ((l1 ++ []).length : Int)) := by simp
theorem mid_next {α : Type} (l1 : List α) (x : α) (l2 : List α) (h : (l1 ++ x :: l2).length ≤ 4611686018427387904) : wrap64 ((l1.length : Int) + 1) = ((l1 ++ [x]).length : Int) := by
  simp at h ⊢
  rw [w64 (by omega) (by omega)]
theorem mid_app {α : Type} (l1 : List α) (x : α) (l2 : List α) : l1 ++ x :: l2 = (l1 ++ [x]) ++ l2 := by simp

/-! ### Items: who shows at a point -/
/-- Its numbers are whole numbers of their kinds. -/
def Q26 (x : S26) : Prop := I64 x.f0 ∧ I64 x.f1 ∧ Q24 x.f2 ∧ Q24 x.f3 ∧ Q24 x.f4 ∧ I64 x.f5
/-- An item shows at a point. -/
def shows (i : S26) (x y : Int) : Prop := has i.f2 x y ∧ has i.f4 x y ∧ (i.f1 = 1 → ¬ has i.f3 x y)
instance (i : S26) (x y : Int) : Decidable (shows i x y) := by unfold shows; exact inferInstance
theorem rdi (l : List S26) (n : Nat) : rd_T26 l (n : Int) = l.getD n z26 := by unfold rd_T26; simp
theorem rdi_mid (l1 : List S26) (x : S26) (l2 : List S26) : rd_T26 (l1 ++ x :: l2) (l1.length : Int) = x := by unfold rd_T26; simp
/-- Of the first n the last one that shows. -/
def ownAt (l : List S26) (x y : Int) : Nat → Option Nat
  | 0 => none
  | n + 1 => if shows (l.getD n z26) x y then some n else ownAt l x y n
theorem ownAt_lt (l : List S26) (x y : Int) : ∀ n m, ownAt l x y n = some m → m < n ∧ shows (l.getD m z26) x y ∧ ∀ j, m < j → j < n → ¬ shows (l.getD j z26) x y
  | 0, m, h => by simp [ownAt] at h
  | n + 1, m, h => by
    unfold ownAt at h
    split at h
    · rename_i hs
      obtain rfl := Option.some.inj h
      exact ⟨by omega, hs, fun j h1 h2 => by omega⟩
    · rename_i hs
      obtain ⟨h1, h2, h3⟩ := ownAt_lt l x y n m h
      refine ⟨by omega, h2, fun j h4 h5 => ?_⟩
      rcases Nat.lt_or_ge j n with h6 | h6
      · exact h3 j h4 h6
      · obtain rfl : j = n := by omega
        exact hs
theorem ownAt_none (l : List S26) (x y : Int) : ∀ n, ownAt l x y n = none → ∀ j, j < n → ¬ shows (l.getD j z26) x y
  | 0, _, j, hj => by omega
  | n + 1, h, j, hj => by
    unfold ownAt at h
    split at h
    · cases h
    · rename_i hs
      rcases Nat.lt_or_ge j n with h6 | h6
      · exact ownAt_none l x y n h j h6
      · obtain rfl : j = n := by omega
        exact hs
theorem ownAt_app (l l2 : List S26) (x y : Int) : ∀ n, n ≤ l.length → ownAt (l ++ l2) x y n = ownAt l x y n
  | 0, _ => rfl
  | n + 1, h => by
    unfold ownAt
    have e : (l ++ l2).getD n z26 = l.getD n z26 := by
      simp only [List.getD_eq_getElem?_getD]
      rw [List.getElem?_append_left (by omega)]
    rw [e, ownAt_app l l2 x y n (by omega)]
/-- Who owns a point. -/
def ownr (l : List S26) (x y : Int) : Option Nat := ownAt l x y l.length
theorem ownr_snoc (l : List S26) (i : S26) (x y : Int) : ownr (l ++ [i]) x y = if shows i x y then some l.length else ownr l x y := by
  unfold ownr
  rw [List.length_append, List.length_singleton]
  show (if _ then _ else _) = _
  have e : (l ++ [i]).getD l.length z26 = i := by simp
  rw [e, ownAt_app l [i] x y l.length (Nat.le_refl _)]
theorem ownr_lt {l : List S26} {x y : Int} {m : Nat} (h : ownr l x y = some m) : m < l.length := (ownAt_lt l x y _ m h).1

theorem shows_eq (i : S26) (x y : Int) : owner_Shows.f i.f0 i.f1 i.f2.f0 i.f2.f1 i.f2.f2 i.f2.f3 i.f3.f0 i.f3.f1 i.f3.f2 i.f3.f3 i.f4.f0 i.f4.f1 i.f4.f2 i.f4.f3 i.f5 x y = some (decide (shows i x y)) := by
  unfold owner_Shows.f
  rw [holds_eq, holds_eq, holds_eq]
  simp only [Option.bind_some]
  unfold shows
  by_cases h1 : has i.f2 x y <;> by_cases h2 : has i.f4 x y <;> by_cases h3 : i.f1 = 1 <;> by_cases h4 : has i.f3 x y <;> simp [h1, h2, h3, h4]

theorem ofl (l : List S26) (x y : Int) (hl : l.length ≤ 4611686018427387904) : ∀ (n k : Nat), n < k → n ≤ l.length →
    owner_Of.l0 k l x y ((n : Int) - 1) = some (match ownAt l x y n with | some m => ((m : Int), true) | none => (0, false))
  | 0, k, hk, _ => by
    obtain ⟨k, rfl⟩ : ∃ m, k = m + 1 := ⟨k - 1, by omega⟩
    simp only [owner_Of.l0]
    rw [if_neg (by omega)]
    rfl
  | n + 1, k, hk, hn => by
    obtain ⟨k, rfl⟩ : ∃ m, k = m + 1 := ⟨k - 1, by omega⟩
    have e : ((n + 1 : Nat) : Int) - 1 = (n : Int) := by omega
    rw [e]
    simp only [owner_Of.l0]
    rw [if_pos (by omega), if_pos (by omega), if_pos (by omega), rdi, shows_eq, w64 (by omega) (by omega)]
    simp only [Option.bind_some]
    unfold ownAt
    by_cases hs : shows (l.getD n z26) x y
    · rw [if_pos (by simpa using hs), if_pos hs]
    · rw [if_neg (by simpa using hs), if_neg hs]
      exact ofl l x y hl n k (by omega) (by omega)
theorem of_eq (l : List S26) (x y : Int) (k : Nat) (hk : l.length < k) (hl : l.length ≤ 4611686018427387904) :
    owner_Of.f k l x y = some (match ownr l x y with | some m => ((m : Int), true) | none => (0, false)) := by
  unfold owner_Of.f
  rw [w64 (by omega) (by omega)]
  exact ofl l x y hl l.length k hk (Nat.le_refl _)

/-- Those of the first n that show, the last one first. -/
def allAt (l : List S26) (x y : Int) : Nat → List Int
  | 0 => []
  | n + 1 => if shows (l.getD n z26) x y then (n : Int) :: allAt l x y n else allAt l x y n
theorem allAt_len (l : List S26) (x y : Int) : ∀ n, (allAt l x y n).length ≤ n
  | 0 => by simp [allAt]
  | n + 1 => by
    unfold allAt
    have := allAt_len l x y n
    split
    · simp; omega
    · omega
theorem alll (l : List S26) (x y : Int) (hl : l.length ≤ 1000000) : ∀ (n k : Nat) (acc : List Int), n < k → n ≤ l.length → acc.length + n ≤ 1000000 →
    owner_All.l0 k l x y acc ((n : Int) - 1) = some (acc ++ allAt l x y n)
  | 0, k, acc, hk, _, _ => by
    obtain ⟨k, rfl⟩ : ∃ m, k = m + 1 := ⟨k - 1, by omega⟩
    simp only [owner_All.l0]
    rw [if_neg (by omega)]
    simp [allAt]
  | n + 1, k, acc, hk, hn, ha => by
    obtain ⟨k, rfl⟩ : ∃ m, k = m + 1 := ⟨k - 1, by omega⟩
    have e : ((n + 1 : Nat) : Int) - 1 = (n : Int) := by omega
    rw [e]
    simp only [owner_All.l0]
    rw [if_pos (by omega), if_pos (by omega), if_pos (by omega), rdi, shows_eq, w64 (by omega) (by omega)]
    simp only [Option.bind_some]
    unfold allAt
    by_cases hs : shows (l.getD n z26) x y
    · rw [if_pos (by simpa using hs), if_pos hs, if_pos (by omega), alll l x y hl n k (acc ++ [(n : Int)]) (by omega) (by omega) (by simp; omega)]
      simp
    · rw [if_neg (by simpa using hs), if_neg hs, alll l x y hl n k acc (by omega) (by omega) (by omega)]
theorem all_eq (l : List S26) (x y : Int) (k : Nat) (hk : l.length < k) (hl : l.length ≤ 1000000) : owner_All.f k l x y = some (allAt l x y l.length) := by
  unfold owner_All.f
  rw [w64 (by omega) (by omega), alll l x y hl l.length k [] hk (Nat.le_refl _) (by simp; omega)]
  simp

theorem rd_mid_i (l1 : List Int) (x : Int) (l2 : List Int) : rd (l1 ++ x :: l2) (l1.length : Int) = x := by unfold rd; simp

theorem awake_ok (k : Nat) (hk : 8 ≤ k) : decoupagelaw26_awake.f k = some true :=
  at_rounds (g := fun k => decoupagelaw26_awake.f k) (fun k => decoupagelaw26_awake.mono k) hk (by decide +kernel)

/-! ### The owner is the first of all -/
theorem allAt_own (l : List S26) (x y : Int) : ∀ n, (ownAt l x y n = none ∧ allAt l x y n = []) ∨ ∃ m t, ownAt l x y n = some m ∧ allAt l x y n = ((m : Nat) : Int) :: t
  | 0 => Or.inl ⟨rfl, rfl⟩
  | n + 1 => by
    unfold ownAt allAt
    by_cases h : shows (l.getD n z26) x y
    · rw [if_pos h, if_pos h]
      exact Or.inr ⟨n, _, rfl, rfl⟩
    · rw [if_neg h, if_neg h]
      exact allAt_own l x y n
theorem allAt_mem (l : List S26) (x y : Int) : ∀ n, ∀ q ∈ allAt l x y n, ∃ j : Nat, q = (j : Int) ∧ j < n ∧ shows (l.getD j z26) x y
  | 0, q, h => by simp [allAt] at h
  | n + 1, q, h => by
    unfold allAt at h
    by_cases hs : shows (l.getD n z26) x y
    · rw [if_pos hs] at h
      rcases List.mem_cons.1 h with rfl | h
      · exact ⟨n, rfl, by omega, hs⟩
      · obtain ⟨j, h1, h2, h3⟩ := allAt_mem l x y n q h
        exact ⟨j, h1, by omega, h3⟩
    · rw [if_neg hs] at h
      obtain ⟨j, h1, h2, h3⟩ := allAt_mem l x y n q h
      exact ⟨j, h1, by omega, h3⟩
theorem allAt_desc (l : List S26) (x y : Int) : ∀ n, (allAt l x y n).Pairwise (fun a b => b < a)
  | 0 => List.Pairwise.nil
  | n + 1 => by
    unfold allAt
    by_cases hs : shows (l.getD n z26) x y
    · rw [if_pos hs]
      refine List.Pairwise.cons ?_ (allAt_desc l x y n)
      intro q hq
      obtain ⟨j, h1, h2, _⟩ := allAt_mem l x y n q hq
      omega
    · rw [if_neg hs]
      exact allAt_desc l x y n
theorem oal (l : List S26) (x y m0 : Int) (b0 : Bool) (p2 : List Int) : ∀ (p1 : List Int) (k : Nat), p2.length + 1 < k → (p1 ++ p2).length ≤ 1000000 →
    (∀ q ∈ p2, ∃ j : Nat, q = (j : Int) ∧ j < l.length ∧ shows (l.getD j z26) x y) → (p1 ++ p2).Pairwise (fun a b => b < a) →
    (∀ k, 1 ≤ k → decoupagelaw26_OwnerAll.l0 k l x y m0 b0 (p1 ++ p2) ((p1 ++ p2).length : Int) ((p1 ++ p2).length : Int) = some true) →
    decoupagelaw26_OwnerAll.l0 k l x y m0 b0 (p1 ++ p2) ((p1 ++ p2).length : Int) (p1.length : Int) = some true := by
  induction p2 with
  | nil =>
    intro p1 k hk _ _ _ hf
    have := hf k (by omega)
    rw [List.append_nil] at this ⊢
    exact this
  | cons q p2 ih =>
    intro p1 k hk hn hq hd hf
    obtain ⟨k, rfl⟩ : ∃ m, k = m + 1 := ⟨k - 1, by omega⟩
    simp only [List.length_cons] at hk
    have nx := ih (p1 ++ [q]) k (by omega) (by rw [← mid_app]; exact hn) (fun z hz => hq z (List.mem_cons_of_mem _ hz)) (by rw [← mid_app]; exact hd) (by rw [← mid_app]; exact hf)
    rw [← mid_app] at nx
    obtain ⟨j, hj, hjl, hs⟩ := hq q (by simp)
    have h0 : ¬ q < 0 := by omega
    have h1 : ¬ q ≥ (l.length : Int) := by omega
    have fin : (if 0 ≤ q then (if q < (l.length : Int) then ((owner_Shows.f ((rd_T26 l q).f0) ((rd_T26 l q).f1) ((rd_T26 l q).f2.f0) ((rd_T26 l q).f2.f1) ((rd_T26 l q).f2.f2) ((rd_T26 l q).f2.f3) ((rd_T26 l q).f3.f0) ((rd_T26 l q).f3.f1) ((rd_T26 l q).f3.f2) ((rd_T26 l q).f3.f3) ((rd_T26 l q).f4.f0) ((rd_T26 l q).f4.f1) ((rd_T26 l q).f4.f2) ((rd_T26 l q).f4.f3) ((rd_T26 l q).f5) x y).bind fun t132 => (if t132 = true then (decoupagelaw26_OwnerAll.l0 k l x y m0 b0 (p1 ++ q :: p2) ((p1 ++ q :: p2).length : Int) (((p1 ++ [q]).length : Int))) else (some false))) else (none)) else (none)) = some true := by
      rw [if_pos (by omega), if_pos (by omega), hj, rdi, shows_eq]
      simp only [Option.bind_some]
      rw [decide_eq_true hs, if_pos rfl, ← hj]
      exact nx
    simp only [decoupagelaw26_OwnerAll.l0]
    rw [if_pos (mid_lt _ _ _), if_pos (by omega), if_pos (mid_lt _ _ _), rd_mid_i, mid_next p1 q p2 (by omega), if_neg h0, if_neg h1]
    by_cases hp : (p1.length : Int) > 0
    · obtain ⟨p0, z, rfl⟩ : ∃ p0 z, p1 = p0 ++ [z] := by
        rcases List.eq_nil_or_concat p1 with h | ⟨p0, z, h⟩
        · rw [h] at hp; simp at hp
        · exact ⟨p0, z, by simpa using h⟩
      have hz : q < z := by
        have := List.pairwise_append.1 hd
        exact this.2.2 z (by simp) q (by simp)
      have e1 : wrap64 (((p0 ++ [z]).length : Int) - 1) = (p0.length : Int) := by
        simp at hn ⊢
        rw [w64 (by omega) (by omega)]
        try omega
      have e2 : rd ((p0 ++ [z]) ++ q :: p2) (p0.length : Int) = z := by
        rw [← mid_app p0 z (q :: p2)]
        exact rd_mid_i p0 z _
      rw [if_pos hp, e1, if_pos (by omega), if_pos (by simp; omega), e2, if_neg (by omega)]
      exact fin
    · rw [if_neg hp]
      exact fin
theorem OwnerAll : ∀ (l0 : List S26) (a1 : Int) (a2 : Int), (∀ x ∈ l0, Q26 x) → I64 a1 → I64 a2 → ∃ k, decoupagelaw26_OwnerAll.f k l0 a1 a2 = some true := by
  intro l x y _ _ _
  refine ⟨300, ?_⟩
  unfold decoupagelaw26_OwnerAll.f
  rw [awake_ok 300 (by omega)]
  simp only [Option.bind_some, if_true, decoupagelaw26_OwnerAll.j0]
  by_cases hl : (l.length : Int) > 100
  · rw [if_pos (by simpa using hl), awake_ok 299 (by omega)]; rfl
  have ha := allAt_len l x y l.length
  rw [if_neg (by simpa using hl), of_eq l x y 299 (by omega) (by omega), all_eq l x y 299 (by omega) (by omega)]
  simp only [Option.bind_some]
  refine oal l x y _ _ (allAt l x y l.length) [] 299 (by omega) (by simp; omega) (fun q hq => allAt_mem l x y _ q hq) (allAt_desc l x y _) ?_
  intro k hk
  obtain ⟨k, rfl⟩ : ∃ m, k = m + 1 := ⟨k - 1, by omega⟩
  rw [List.nil_append]
  simp only [decoupagelaw26_OwnerAll.l0]
  rw [if_neg (by omega)]
  unfold ownr
  rcases allAt_own l x y l.length with ⟨e1, e2⟩ | ⟨m, t, e1, e2⟩
  · rw [e1, e2]
    rfl
  · rw [e1, e2]
    have h0 : rd ((m : Int) :: t) 0 = (m : Int) := rd_mid_i [] (m : Int) t
    simp [h0]
    try omega

end Go.Proofs.Ytipcledgblodjaa.Pure
