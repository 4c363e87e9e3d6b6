/- What is proved: of children whose margins are 0 and that do not go through, each stands right beneath the one ahead. Conditions: none. -/
import Derived.Test.YtpoeebngkakmeaaPPileApartx
import Derived.Test.YtpoeebngkakmeaaOpens
namespace Go.Proofs.Ytpoeebngkakmeaa.Pure
open Go.RowKit Go.Proofs.Ytpoeebngkakmeaa.PPileApart Go.Proofs.YtpoeebngkakmeaaW.PrintWords Go.Proofs.YtpoeebngkakmeaaW.PrintLast
set_option linter.unusedSimpArgs false
set_option linter.unusedVariables false
open Go.Proofs.Ytpoeebngkakmeaa.Opens

theorem awake_ev : decoupagelaw12_awake.f = some true := by decide +kernel
/-- Where boxes stand that lie one beneath the other. -/
def starts : Int → List Int → List Int
  | _, [] => []
  | e, h :: t => e :: starts (e + h) t
def kid (h : Int) : S64 := ⟨⟨0, 0⟩, ⟨0, 0⟩, ⟨0, 0⟩, false, wrap64 h⟩
theorem starts_len : ∀ (l : List Int) (e : Int), (starts e l).length = l.length
  | [], _ => rfl
  | h :: t, e => by simp [starts, starts_len t]
theorem starts_get : ∀ (l1 : List Int) (x : Int) (l2 : List Int) (e : Int), rd (starts e (l1 ++ x :: l2)) (l1.length : Int) = e + l1.sum
  | [], x, l2, e => by simp [starts, rd]
  | h :: t, x, l2, e => by
    have ih := starts_get t x l2 (e + h)
    unfold rd at ih ⊢
    simp only [List.cons_append, starts, List.length_cons, List.sum_cons]
    have : ((t.length + 1 : Nat) : Int).toNat = (t.length : Int).toNat + 1 := by omega
    rw [this, List.getD_cons_succ, ih]
    omega
theorem mx0 : mx 0 0 = 0 := by decide
theorem mn0 : mn 0 0 = 0 := by decide
theorem fsum2 (a b : Int) (ha : 0 ≤ a) (ha2 : a ≤ 4294967296) (hb : 0 ≤ b) (hb2 : b ≤ 4294967296) : fsum [a, b] = (a + b, true) := by
  unfold fsum
  rw [if_pos]
  · simp
  · refine ⟨?_, ?_⟩
    · intro x hx
      simp only [List.mem_cons, List.not_mem_nil, or_false] at hx
      unfold fit
      rcases hx with rfl | rfl <;> omega
    · simp only [List.sum_cons, List.sum_nil]
      unfold fit
      omega
theorem putS_kid (ys : List Int) (e h : Int) (top : Bool) (he : 0 ≤ e) (he2 : e ≤ 4294967296 - 65536) (hh : 0 ≤ h) (hh2 : h ≤ 65535) (ht : top = true → e = 0) :
    Go.Proofs.Ytpoeebngkakmeaa.PutA.putS ⟨ys, e, 0, 0, 0, 0, top⟩ (toCh (kid h)) = (⟨ys ++ [e], e + h, 0, 0, 0, 0, false⟩, true) := by
  have hw : wrap64 h = h := w64 (by omega) (by omega)
  unfold Go.Proofs.Ytpoeebngkakmeaa.PutA.putS toCh kid
  cases top with
  | true =>
    have := ht rfl
    subst this
    simp only [if_true, Bool.false_eq_true, if_false, mx0, mn0, hw, Int.zero_add]
    rw [decide_eq_true (show fit h by unfold fit; omega)]
  | false =>
    simp only [Bool.false_eq_true, if_false, mx0, mn0, hw]
    rw [fsum2 0 0 (by omega) (by omega) (by omega) (by omega)]
    simp only [Int.add_zero]
    rw [fsum2 e 0 (by omega) (by omega) (by omega) (by omega)]
    simp only [Int.add_zero]
    rw [fsum2 e h (by omega) (by omega) (by omega) (by omega)]
    rfl
theorem stack_kids : ∀ (l : List Int) (ys : List Int) (e : Int) (top : Bool), (∀ h ∈ l, 0 ≤ h ∧ h ≤ 65535) → 0 ≤ e → e + 65535 * (l.length : Int) ≤ 4294967296 - 65536 → (top = true → e = 0) →
    stackS ⟨ys, e, 0, 0, 0, 0, top⟩ (l.map kid) = some ⟨ys ++ starts e l, e + l.sum, 0, 0, 0, 0, top && l.isEmpty⟩
  | [], ys, e, top, hl, he, hb, ht => by simp [stackS, starts]
  | h :: t, ys, e, top, hl, he, hb, ht => by
    obtain ⟨h1, h2⟩ := hl h (by simp)
    simp only [List.length_cons] at hb
    rw [List.map_cons, stackS, putS_kid ys e h top he (by omega) h1 h2 ht]
    simp only [if_true]
    rw [stack_kids t (ys ++ [e]) (e + h) false (fun x hx => hl x (by simp [hx])) (by omega) (by omega) (by simp)]
    simp [starts, List.append_assoc]
    omega
theorem stack_apart (l : List Int) (op : Bool) (hl : ∀ h ∈ l, 0 ≤ h ∧ h ≤ 65535) (hn : l.length ≤ 50) :
    pile_Stack.f (l.map kid) op = some (starts 0 l, l.sum, 0, 0, 0, 0, op && l.isEmpty, true) := by
  unfold pile_Stack.f
  rw [if_pos (by simp; omega), stack_kids l [] 0 op hl (by omega) (by omega) (fun _ => rfl)]
  simp [stackR]
theorem apart_l1 (x1 : Bool) (l2 : List Int) : ∀ (l1 : List Int) (k : Nat), l2.length < k → (l1 ++ l2).length ≤ 50 → (∀ h ∈ l1 ++ l2, 0 ≤ h ∧ h ≤ 65535) →
    decoupagelaw12_PileApart.l1 k (l1 ++ l2) x1 true l1.sum ((l1 ++ l2).length : Int) (l1.length : Int) (starts 0 (l1 ++ l2)) (l1 ++ l2).sum 0 0 0 0 (x1 && (l1 ++ l2).isEmpty) = some true := by
  induction l2 with
  | nil =>
    intro l1 k hk hn hl
    obtain ⟨k, rfl⟩ : ∃ m, k = m + 1 := ⟨k - 1, by omega⟩
    simp only [List.append_nil] at hn hl ⊢
    simp only [decoupagelaw12_PileApart.l1]
    rw [if_neg (by omega), if_pos trivial, if_pos trivial]
    cases l1 with
    | nil => cases x1 <;> simp
    | cons a l1 =>
      have : ¬ ((l1.length : Int) + 1 = 0) := by omega
      cases x1 <;> simp [this]
  | cons x l2 ih =>
    intro l1 k hk hn hl
    obtain ⟨k, rfl⟩ : ∃ m, k = m + 1 := ⟨k - 1, by omega⟩
    have ih' := ih (l1 ++ [x]) k (by simp at hk; omega) (by simpa using hn) (by simpa using hl)
    simp only [List.append_assoc, List.singleton_append] at ih'
    have hx := hl x (by simp)
    have hs : 0 ≤ l1.sum ∧ l1.sum ≤ 65535 * (l1.length : Int) := by
      have key : ∀ l : List Int, (∀ h ∈ l, 0 ≤ h ∧ h ≤ 65535) → 0 ≤ l.sum ∧ l.sum ≤ 65535 * (l.length : Int) := by
        intro l
        induction l with
        | nil => intro _; simp
        | cons a l ih =>
          intro h
          have h1 := h a (by simp)
          have h2 := ih (fun y hy => h y (by simp [hy]))
          simp only [List.sum_cons, List.length_cons]
          omega
      exact key l1 (fun y hy => hl y (by simp [hy]))
    have hlen : (l1 ++ x :: l2).length = l1.length + l2.length + 1 := by simp; omega
    have hsl := starts_len (l1 ++ x :: l2) 0
    have e1 := starts_get l1 x l2 0
    have e2 : rd (l1 ++ x :: l2) (l1.length : Int) = x := by unfold rd; simp
    have e3 : (l1 ++ [x]).sum = l1.sum + x := by simp
    have e4 : ((l1 ++ [x]).length : Int) = (l1.length : Int) + 1 := by simp
    rw [e3, e4] at ih'
    simp only [decoupagelaw12_PileApart.l1]
    rw [if_pos (by omega), if_pos trivial, if_pos (by omega), if_pos (by omega), if_pos (by omega), if_pos (by rw [e1]; omega), if_pos (by omega), e2]
    rw [w64 (n := x) (by omega) (by omega), w64 (by omega) (by omega), w64 (by omega) (by omega)]
    exact ih'
theorem apart_l0 (x1 : Bool) (l2 : List Int) : ∀ (l1 : List Int) (k : Nat), l2.length + (l1 ++ l2).length + 1 < k → (l1 ++ l2).length ≤ 50 → (∀ h ∈ l1 ++ l2, 0 ≤ h ∧ h ≤ 65535) →
    decoupagelaw12_PileApart.l0 k (l1 ++ l2) x1 (l1.map kid) ((l1 ++ l2).length : Int) (l1.length : Int) = some true := by
  induction l2 with
  | nil =>
    intro l1 k hk hn hl
    obtain ⟨k, rfl⟩ : ∃ m, k = m + 1 := ⟨k - 1, by omega⟩
    simp only [List.append_nil] at hn hl hk ⊢
    simp only [decoupagelaw12_PileApart.l0]
    rw [if_neg (by omega), stack_apart l1 x1 hl hn]
    simp only [Option.bind_some]
    have := apart_l1 x1 l1 [] k (by omega) (by simpa using hn) (by simpa using hl)
    simpa using this
  | cons x l2 ih =>
    intro l1 k hk hn hl
    obtain ⟨k, rfl⟩ : ∃ m, k = m + 1 := ⟨k - 1, by omega⟩
    have ih' := ih (l1 ++ [x]) k (by simp at hk ⊢; omega) (by simpa using hn) (by simpa using hl)
    have e2 : rd (l1 ++ x :: l2) (l1.length : Int) = x := by unfold rd; simp
    have hlen : (l1 ++ x :: l2).length = l1.length + l2.length + 1 := by simp; omega
    simp only [decoupagelaw12_PileApart.l0]
    rw [if_pos (by omega), if_pos (by omega), if_pos (by omega), if_pos (by simp; omega), e2]
    rw [w64 (n := (l1.length : Int) + 1) (by omega) (by omega)]
    simp only [List.append_assoc, List.singleton_append, List.map_append, List.map_cons, List.map_nil, List.length_append, List.length_singleton, Int.natCast_add] at ih'
    simp only [List.length_append, Int.natCast_add, List.length_cons] at ih' ⊢
    exact ih'
theorem PileApart : decoupagelaw12_PileApart.Pure := by
  intro l0 a1 _ _ hwf
  have hl : ∀ h ∈ l0, 0 ≤ h ∧ h ≤ 65535 := by
    intro h hh
    have := hwf h hh
    simp only [Lit.wf, Bool.and_eq_true, decide_eq_true_eq] at this
    have e1 : IntKind.min .u16 = 0 := by decide
    have e2 : IntKind.max .u16 = 65535 := by decide
    rw [e1, e2] at this
    exact this
  refine ⟨200, ?_⟩
  unfold decoupagelaw12_PileApart.f
  rw [awake_ev]
  simp only [Option.bind_some, if_true]
  by_cases hn : (l0.length : Int) > 50
  · rw [decide_eq_true hn]
    have e : decoupagelaw12_PileApart.j0 200 l0 a1 true = (decoupagelaw12_awake.f).bind fun t => some t := by
      show decoupagelaw12_PileApart.j0 (199 + 1) l0 a1 true = _
      simp only [decoupagelaw12_PileApart.j0, if_true]
    rw [e, awake_ev]
    rfl
  · rw [decide_eq_false hn]
    have e : decoupagelaw12_PileApart.j0 200 l0 a1 false = decoupagelaw12_PileApart.l0 199 l0 a1 [] (l0.length : Int) 0 := by
      show decoupagelaw12_PileApart.j0 (199 + 1) l0 a1 false = _
      simp only [decoupagelaw12_PileApart.j0, Bool.false_eq_true, if_false]
    rw [e]
    have := apart_l0 a1 l0 [] 199 (by simp; omega) (by simp; omega) (by simpa using hl)
    simpa using this

end Go.Proofs.Ytpoeebngkakmeaa.Pure
