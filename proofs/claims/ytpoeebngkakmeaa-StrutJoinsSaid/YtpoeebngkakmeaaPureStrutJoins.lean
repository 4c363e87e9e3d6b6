/- What is proved: margins joined in any grouping give the greatest positive and the least negative one. Conditions: none. -/
import Derived.Test.YtpoeebngkakmeaaMStrutJoins
import Derived.Test.YtpoeebngkakmeaaOpens
namespace Go.Proofs.Ytpoeebngkakmeaa.Pure
open Go.RowKit Go.Proofs.Ytpoeebngkakmeaa.PStrutJoins Go.Proofs.YtpoeebngkakmeaaW.PrintWords Go.Proofs.YtpoeebngkakmeaaW.PrintLast
set_option linter.unusedSimpArgs false
set_option linter.unusedVariables false
open Go.Proofs.Ytpoeebngkakmeaa.Opens

/-! ### A loop over a list, place by place -/
theorem w64 {n : Int} (h1 : -9223372036854775808 ≤ n) (h2 : n ≤ 9223372036854775807) : wrap64 n = n := by unfold wrap64; omega
theorem mid_lt {α : Type} (l1 : List α) (x : α) (l2 : List α) : ((l1.length : Int) < ((l1 ++ x :: l2).length : Int)) := by simp; omega
theorem mid_ge {α : Type} (l1 : List α) : ¬ ((l1.length : Int) < ((l1 ++ []).length : Int)) := by simp
theorem mid_next {α : Type} (l1 : List α) (x : α) (l2 : List α) (h : (l1 ++ x :: l2).length ≤ 4611686018427387904) : wrap64 ((l1.length : Int) + 1) = ((l1 ++ [x]).length : Int) := by
  simp at h ⊢
  rw [w64 (by omega) (by omega)]
theorem mid_app {α : Type} (l1 : List α) (x : α) (l2 : List α) : l1 ++ x :: l2 = (l1 ++ [x]) ++ l2 := by simp

theorem awake_ok (k : Nat) (hk : 8 ≤ k) : decoupagelaw11_awake.f k = some true :=
  at_rounds (g := fun k => decoupagelaw11_awake.f k) (fun k => decoupagelaw11_awake.mono k) hk (by decide +kernel)
theorem mx_comm (x y : Int) : mx x y = mx y x := by unfold mx; split <;> split <;> omega
theorem mn_comm (x y : Int) : mn x y = mn y x := by unfold mn; split <;> split <;> omega
theorem mx_assoc (x y z : Int) : mx x (mx y z) = mx (mx x y) z := by unfold mx; (repeat' split) <;> omega
theorem mn_assoc (x y z : Int) : mn x (mn y z) = mn (mn x y) z := by unfold mn; (repeat' split) <;> omega
theorem mx_self (x : Int) : mx x x = x := by unfold mx; split <;> rfl
theorem mn_self (x : Int) : mn x x = x := by unfold mn; split <;> rfl

/-- The greatest of some and a number. -/
def gmx (l : List Int) (a : Int) : Int := l.foldl mx a
def gmn (l : List Int) (a : Int) : Int := l.foldl mn a
theorem gmx_pos (l : List Int) : ∀ a, 0 ≤ a → 0 ≤ gmx l a := by
  induction l with
  | nil => intro a h; exact h
  | cons x l ih => intro a h; exact ih (mx a x) (by unfold mx; split <;> omega)
theorem gmn_neg (l : List Int) : ∀ a, a ≤ 0 → gmn l a ≤ 0 := by
  induction l with
  | nil => intro a h; exact h
  | cons x l ih => intro a h; exact ih (mn a x) (by unfold mn; split <;> omega)
theorem gmx_snoc (l : List Int) (x a : Int) : gmx (l ++ [x]) a = mx (gmx l a) x := by unfold gmx; rw [List.foldl_append]; rfl
theorem gmn_snoc (l : List Int) (x a : Int) : gmn (l ++ [x]) a = mn (gmn l a) x := by unfold gmn; rw [List.foldl_append]; rfl
theorem rdi_mid' (l1 : List Int) (x : Int) (l2 : List Int) : rd (l1 ++ x :: l2) (l1.length : Int) = x := by unfold rd; simp
theorem rall_l (l2 : List Int) : ∀ (l1 : List Int) (k : Nat) (p n : Int), l2.length < k → (l1 ++ l2).length ≤ 4000 → n ≤ 0 → 0 ≤ p →
    decoupageref11_All.l0 k (l1 ++ l2) ((l1 ++ l2).length : Int) (l1.length : Int) p n = some (gmx l2 p, gmn l2 n) := by
  induction l2 with
  | nil =>
    intro l1 k p n hk _ _ _
    obtain ⟨k, rfl⟩ : ∃ m, k = m + 1 := ⟨k - 1, by omega⟩
    simp only [decoupageref11_All.l0]
    rw [if_neg (mid_ge _)]
    rfl
  | cons x l2 ih =>
    intro l1 k p n hk hn h1 h2
    obtain ⟨k, rfl⟩ : ∃ m, k = m + 1 := ⟨k - 1, by omega⟩
    simp only [List.length_cons] at hk
    simp only [decoupageref11_All.l0]
    rw [if_pos (mid_lt _ _ _), if_pos (by omega), if_pos (mid_lt _ _ _), rdi_mid', mid_next l1 x l2 (by omega)]
    rw [mid_app l1 x l2] at hn ⊢
    have e1 : gmx (x :: l2) p = gmx l2 (mx p x) := rfl
    have e2 : gmn (x :: l2) n = gmn l2 (mn n x) := rfl
    rw [e1, e2]
    by_cases c1 : x > p
    · rw [if_pos c1, if_neg (by omega), show mx p x = x by unfold mx; rw [if_pos (by omega)], show mn n x = n by unfold mn; rw [if_neg (by omega)]]
      exact ih (l1 ++ [x]) k x n (by omega) hn (by omega) (by omega)
    · rw [if_neg c1, show mx p x = p by unfold mx; rw [if_neg (by omega)]]
      by_cases c2 : x < n
      · rw [if_pos c2, show mn n x = x by unfold mn; rw [if_pos (by omega)]]
        exact ih (l1 ++ [x]) k p x (by omega) hn (by omega) (by omega)
      · rw [if_neg c2, show mn n x = n by unfold mn; rw [if_neg (by omega)]]
        exact ih (l1 ++ [x]) k p n (by omega) hn (by omega) (by omega)
theorem joinsl (L : List Int) (at_ : Int) (hL : L.length ≤ 4000) (l2 : List Int) : ∀ (l1 : List Int) (k : Nat) (a b c d : Int), l1 ++ l2 = L → l2.length + L.length + 1 < k →
    mx a c = gmx l1 0 → mn b d = gmn l1 0 →
    decoupagelaw11_StrutJoins.l0 k L at_ (L.length : Int) (l1.length : Int) a b c d = some true := by
  induction l2 with
  | nil =>
    rintro l1 k a b c d rfl hk h1 h2
    obtain ⟨k, rfl⟩ : ∃ m, k = m + 1 := ⟨k - 1, by omega⟩
    rw [List.append_nil] at hL hk ⊢
    simp only [decoupagelaw11_StrutJoins.l0]
    rw [if_neg (by omega)]
    have hr := rall_l l1 [] k 0 0 (by simp at hk ⊢; omega) (by simpa using hL) (by omega) (by omega)
    have e : decoupageref11_All.f k l1 = some (gmx l1 0, gmn l1 0) := hr
    simp only [strut_Join.f, Option.bind_some]
    rw [e, mx_comm c a, mn_comm d b, h1, h2]
    simp
  | cons x l2 ih =>
    rintro l1 k a b c d rfl hk h1 h2
    obtain ⟨k, rfl⟩ : ∃ m, k = m + 1 := ⟨k - 1, by omega⟩
    have p1 := gmx_pos l1 0 (by omega); have p2 := gmn_neg l1 0 (by omega)
    simp only [List.length_cons] at hk
    simp only [decoupagelaw11_StrutJoins.l0, strut_Of.f, strut_Join.f, Option.bind_some]
    rw [if_pos (mid_lt _ _ _)]
    have q1 : mx (mx a c) (mx x 0) = gmx (l1 ++ [x]) 0 := by rw [gmx_snoc, h1]; unfold mx; (repeat' split) <;> omega
    have q2 : mn (mn b d) (mn x 0) = gmn (l1 ++ [x]) 0 := by rw [gmn_snoc, h2]; unfold mn; (repeat' split) <;> omega
    by_cases hc : (l1.length : Int) < at_
    · rw [if_pos hc, if_pos (by omega), if_pos (mid_lt _ _ _), rdi_mid', mid_next l1 x l2 (by omega)]
      refine ih (l1 ++ [x]) k _ _ c d (by simp) (by omega) ?_ ?_
      · rw [← q1, ← mx_assoc a, mx_comm (mx x 0) c, mx_assoc]
      · rw [← q2, ← mn_assoc b, mn_comm (mn x 0) d, mn_assoc]
    · rw [if_neg hc, if_pos (by omega), if_pos (mid_lt _ _ _), rdi_mid', mid_next l1 x l2 (by omega)]
      refine ih (l1 ++ [x]) k a b _ _ (by simp) (by omega) ?_ ?_
      · rw [← q1, mx_comm (mx x 0) c, mx_assoc]
      · rw [← q2, mn_comm (mn x 0) d, mn_assoc]
theorem joins_ok (l : List Int) (a1 : Int) (k : Nat) (hk : 400 < k) (h1 : (Lit.int .u8 a1).wf = true) : decoupagelaw11_StrutJoins.f (k + 2) l a1 = some true := by
  unfold decoupagelaw11_StrutJoins.f
  rw [awake_ok (k + 2) (by omega)]
  simp only [Option.bind_some, if_true, decoupagelaw11_StrutJoins.j0]
  by_cases hl : (l.length : Int) > 100
  · rw [if_pos (by simpa using hl), awake_ok (k + 1) (by omega)]; rfl
  rw [if_neg (by simpa using hl)]
  have key : ∀ n, decoupagelaw11_StrutJoins.j1 (k + 1) l n = some true := fun n => by
    simp only [decoupagelaw11_StrutJoins.j1]
    exact joinsl l n (by omega) l [] k 0 0 0 0 rfl (by omega) (by decide) (by decide)
  by_cases h0 : (l.length : Int) > 0
  · rw [if_pos h0, if_neg (by omega)]; exact key _
  · rw [if_neg h0]; exact key _
theorem StrutJoins : ∀ (l0 : List Int) (a1 : Int), (∀ x ∈ l0, I64 x) → (Lit.int .u8 a1).wf = true → ∃ k, decoupagelaw11_StrutJoins.f k l0 a1 = some true := fun l a _ h => ⟨_, joins_ok l a 401 (by omega) h⟩

end Go.Proofs.Ytpoeebngkakmeaa.Pure
