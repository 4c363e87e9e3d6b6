/- What is proved: what is piled behind others stands as it would behind one box that is as high as these, with the margin that they leave. Conditions: none. -/
import Derived.Test.YtpoeebngkakmeaaPPilePartsx
import Derived.Test.YtpoeebngkakmeaaOpens
namespace Go.Proofs.Ytpoeebngkakmeaa.Pure
open Go.RowKit Go.Proofs.Ytpoeebngkakmeaa.PPileParts Go.Proofs.YtpoeebngkakmeaaW.PrintWords Go.Proofs.YtpoeebngkakmeaaW.PrintLast
set_option linter.unusedSimpArgs false
set_option linter.unusedVariables false
open Go.Proofs.Ytpoeebngkakmeaa.Opens

theorem awake_ev : decoupagelaw12_awake.f = some true := by decide +kernel
/-- Boxes put beneath others, none of which is at the top: where they stand, and what is left. -/
def put1 (e cp cn : Int) (x : S64) : Int × Int × Int × Int × Bool :=
  let v := if x.f3 = true then fsum [mx cp x.f2.f0, mn cn x.f2.f1] else fsum [mx cp x.f0.f0, mn cn x.f0.f1]
  let y := fsum [e, v.1]
  if x.f3 = true then (y.1, e, mx cp x.f0.f0, mn cn x.f0.f1, v.2 && y.2)
  else (y.1, (fsum [y.1, x.f4]).1, x.f1.f0, x.f1.f1, v.2 && y.2 && (fsum [y.1, x.f4]).2)
def runP : Int → Int → Int → List S64 → Option (List Int × Int × Int × Int)
  | e, cp, cn, [] => some ([], e, cp, cn)
  | e, cp, cn, x :: l => if (put1 e cp cn x).2.2.2.2 = true then (runP (put1 e cp cn x).2.1 (put1 e cp cn x).2.2.1 (put1 e cp cn x).2.2.2.1 l).map fun r => ((put1 e cp cn x).1 :: r.1, r.2) else none
theorem putS_put1 (ys : List Int) (e tp tn cp cn : Int) (x : S64) :
    Go.Proofs.Ytpoeebngkakmeaa.PutA.putS ⟨ys, e, tp, tn, cp, cn, false⟩ (toCh x) = (⟨ys ++ [(put1 e cp cn x).1], (put1 e cp cn x).2.1, tp, tn, (put1 e cp cn x).2.2.1, (put1 e cp cn x).2.2.2.1, false⟩, (put1 e cp cn x).2.2.2.2) := by
  unfold Go.Proofs.Ytpoeebngkakmeaa.PutA.putS toCh put1
  cases h : x.f3 <;> simp
theorem stack_run : ∀ (l : List S64) (ys : List Int) (e tp tn cp cn : Int),
    stackS ⟨ys, e, tp, tn, cp, cn, false⟩ l = (runP e cp cn l).map fun r => ⟨ys ++ r.1, r.2.1, tp, tn, r.2.2.1, r.2.2.2, false⟩
  | [], ys, e, tp, tn, cp, cn => by simp [stackS, runP]
  | x :: l, ys, e, tp, tn, cp, cn => by
    rw [stackS, putS_put1, runP]
    simp only
    split
    · rw [stack_run l]
      cases runP (put1 e cp cn x).2.1 (put1 e cp cn x).2.2.1 (put1 e cp cn x).2.2.2.1 l with
      | none => rfl
      | some r => simp [List.append_assoc]
    · rfl
theorem run_append : ∀ (l m : List S64) (e cp cn : Int),
    runP e cp cn (l ++ m) = (runP e cp cn l).bind fun r => (runP r.2.1 r.2.2.1 r.2.2.2 m).map fun q => (r.1 ++ q.1, q.2)
  | [], m, e, cp, cn => by
    simp only [List.nil_append, runP, Option.bind_some]
    cases runP e cp cn m <;> rfl
  | x :: l, m, e, cp, cn => by
    rw [List.cons_append, runP, runP]
    split
    · rw [run_append l m]
      cases runP (put1 e cp cn x).2.1 (put1 e cp cn x).2.2.1 (put1 e cp cn x).2.2.2.1 l with
      | none => rfl
      | some r =>
        simp only [Option.bind_some, Option.map_some]
        cases runP r.2.1 r.2.2.1 r.2.2.2 m <;> rfl
    · rfl
theorem run_len : ∀ (l : List S64) (e cp cn : Int) (r : List Int × Int × Int × Int), runP e cp cn l = some r → r.1.length = l.length
  | [], e, cp, cn, r, h => by simp [runP] at h; subst h; rfl
  | x :: l, e, cp, cn, r, h => by
    rw [runP] at h
    split at h
    · obtain ⟨q, h1, h2⟩ := Option.map_eq_some_iff.1 h
      subst h2
      simp [run_len l _ _ _ q h1]
    · cases h
theorem fsum_fit (a b : Int) (h : (fsum [a, b]).2 = true) : fit (fsum [a, b]).1 := by
  unfold fsum at h ⊢
  split
  · rename_i hh
    exact hh.2
  · rename_i hh
    rw [if_neg hh] at h
    cases h
theorem put1_fit (e cp cn : Int) (x : S64) (he : fit e) (h : (put1 e cp cn x).2.2.2.2 = true) : fit (put1 e cp cn x).2.1 := by
  unfold put1 at h ⊢
  cases hx : x.f3 with
  | true => simpa [hx] using he
  | false =>
    simp only [hx, Bool.false_eq_true, if_false, Bool.and_eq_true] at h ⊢
    exact fsum_fit _ _ h.2
theorem run_fit : ∀ (l : List S64) (e cp cn : Int) (r : List Int × Int × Int × Int), fit e → runP e cp cn l = some r → fit r.2.1
  | [], e, cp, cn, r, he, h => by simp [runP] at h; subst h; exact he
  | x :: l, e, cp, cn, r, he, h => by
    rw [runP] at h
    split at h
    · rename_i hok
      obtain ⟨q, h1, h2⟩ := Option.map_eq_some_iff.1 h
      subst h2
      exact run_fit l _ _ _ q (put1_fit e cp cn x he hok) h1
    · cases h
/-- One box, as high as what stands above, with the margin that it leaves. -/
theorem put1_box (e cp cn : Int) (he : fit e) : put1 0 0 0 (⟨⟨0, 0⟩, ⟨cp, cn⟩, ⟨0, 0⟩, false, e⟩ : S64) = (0, e, cp, cn, true) := by
  have h0 : fsum [0, 0] = (0, true) := by decide
  have h1 : fsum [0, e] = (e, true) := by
    unfold fsum
    rw [if_pos]
    · simp
    · refine ⟨?_, ?_⟩
      · intro x hx
        simp only [List.mem_cons, List.not_mem_nil, or_false] at hx
        rcases hx with rfl | rfl
        · unfold fit; omega
        · exact he
      · simpa using he
  have m0 : mx 0 0 = 0 := by decide
  have n0 : mn 0 0 = 0 := by decide
  unfold put1
  simp only [Bool.false_eq_true, if_false, m0, n0, h0, h1]
  rfl
theorem stack_f (l : List S64) (hl : l.length ≤ 1000) : pile_Stack.f l false = some (match runP 0 0 0 l with
    | some r => (r.1, r.2.1, 0, 0, r.2.2.1, r.2.2.2, false, true)
    | none => ([], 0, 0, 0, 0, 0, false, false)) := by
  unfold pile_Stack.f
  rw [if_pos hl, stack_run]
  cases runP 0 0 0 l <;> simp [stackR]
theorem parts_l0 (x0 : List S64) (ya yq : List Int) (e t1 t2 cp cn u1 u2 : Int) (b1 b2 : Bool) (z1 : List Int) (n : Nat) (hx : x0.length ≤ 30) (hn : n ≤ 30) (h1 : ya = z1 ++ yq) (h2 : z1.length = x0.length) (h3 : yq.length = n) :
    ∀ (d i k : Nat), i + d = n → d < k → decoupagelaw12_PileParts.l0 k x0 (n : Int) (i : Int) ya e t1 t2 cp cn b1 (0 :: yq) e u1 u2 cp cn b2 = some true := by
  intro d
  induction d with
  | zero =>
    intro i k hi hk
    obtain ⟨k, rfl⟩ : ∃ m, k = m + 1 := ⟨k - 1, by omega⟩
    simp only [decoupagelaw12_PileParts.l0]
    rw [if_neg (by omega)]
    simp
  | succ d ih =>
    intro i k hi hk
    obtain ⟨k, rfl⟩ : ∃ m, k = m + 1 := ⟨k - 1, by omega⟩
    have hla : ya.length = x0.length + n := by rw [h1, List.length_append, h2, h3]
    have e1 : rd ya ((x0.length : Int) + (i : Int)) = yq.getD i 0 := by
      unfold rd
      rw [h1, show ((x0.length : Int) + (i : Int)).toNat = z1.length + i by omega, List.getD_eq_getElem?_getD, List.getElem?_append_right (by omega), Nat.add_sub_cancel_left, ← List.getD_eq_getElem?_getD]
    have e2 : rd (0 :: yq) ((i : Int) + 1) = yq.getD i 0 := by
      unfold rd
      rw [show ((i : Int) + 1).toNat = i + 1 by omega, List.getD_cons_succ]
    have hq : ((0 :: yq : List Int).length : Int) = (n : Int) + 1 := by simp [h3]
    simp only [decoupagelaw12_PileParts.l0]
    rw [w64 (n := (x0.length : Int) + (i : Int)) (by omega) (by omega), w64 (n := (i : Int) + 1) (by omega) (by omega), e1, e2]
    rw [if_pos (by omega), if_pos (by omega), if_pos (by omega), if_pos (by omega), if_pos (by omega), if_pos rfl]
    have := ih (i + 1) k (by omega) (by omega)
    simpa using this
theorem stack_some (l : List S64) (hl : l.length ≤ 1000) (r : List Int × Int × Int × Int) (h : runP 0 0 0 l = some r) : pile_Stack.f l false = some (r.1, r.2.1, 0, 0, r.2.2.1, r.2.2.2, false, true) := by
  rw [stack_f l hl, h]
theorem stack_none (l : List S64) (hl : l.length ≤ 1000) (h : runP 0 0 0 l = none) : pile_Stack.f l false = some ([], 0, 0, 0, 0, 0, false, false) := by
  rw [stack_f l hl, h]
theorem parts_j0 (l m : List S64) (hl : l.length ≤ 30) (hm : m.length ≤ 30) (k : Nat) (a p : List Int × Int × Int × Int × Int × Int × Bool × Bool) (ha : pile_Stack.f (l ++ m) false = some a) (hp : pile_Stack.f l false = some p) :
    decoupagelaw12_PileParts.j0 (k + 1) l m false = decoupagelaw12_PileParts.j1 k l m a.2.2.2.2.2.2.2 p.2.2.2.2.2.2.2 (if a.2.2.2.2.2.2.2 = true then (!p.2.2.2.2.2.2.2) else true) a.1 a.2.1 a.2.2.1 a.2.2.2.1 a.2.2.2.2.1 a.2.2.2.2.2.1 a.2.2.2.2.2.2.1 p.1 p.2.1 p.2.2.1 p.2.2.2.1 p.2.2.2.2.1 p.2.2.2.2.2.1 p.2.2.2.2.2.2.1 := by
  have ha' : pile_Stack.f (([] ++ l) ++ m) false = some a := ha
  have c1 : ([] : List S64).length + l.length < 2199023255552 := by simp; omega
  have c2 : (([] : List S64) ++ l).length + m.length < 2199023255552 := by simp; omega
  rw [decoupagelaw12_PileParts.j0, if_neg (by simp), Option.bind_some, if_pos c1, Option.bind_some, if_pos c2, ha', Option.bind_some, hp, Option.bind_some]
  cases a.2.2.2.2.2.2.2
  · rw [if_neg (by simp), if_neg (by simp)]
  · rw [if_pos rfl, if_pos rfl]
theorem parts_j1 (l m : List S64) (hl : l.length ≤ 30) (hm : m.length ≤ 30) (k : Nat) (hk : 35 < k) (z1 yq : List Int) (e1 c1 d1 e cp cn : Int) (hz : z1.length = l.length) (hy : yq.length = m.length)
    (hq : pile_Stack.f ([⟨⟨0, 0⟩, ⟨c1, d1⟩, ⟨0, 0⟩, false, e1⟩] ++ m) false = some (0 :: yq, e, 0, 0, cp, cn, false, true)) :
    decoupagelaw12_PileParts.j1 (k + 1) l m true true false (z1 ++ yq) e 0 0 cp cn false z1 e1 0 0 c1 d1 false = some true := by
  have b1 : ([⟨⟨0, 0⟩, ⟨c1, d1⟩, ⟨0, 0⟩, false, e1⟩] : List S64).length + m.length < 2199023255552 := by simp; omega
  have b2 : ((0 :: yq : List Int).length : Int) = wrap64 ((m.length : Int) + 1) := by rw [w64 (by omega) (by omega)]; simp [hy]
  have b3 : ((((z1 ++ yq).length : Int)) != (wrap64 ((l.length : Int) + (m.length : Int)))) = false := by rw [w64 (by omega) (by omega)]; simp [hz, hy]
  obtain ⟨k, rfl⟩ : ∃ q, k = q + 1 := ⟨k - 1, by omega⟩
  rw [decoupagelaw12_PileParts.j1, if_neg (by simp), Option.bind_some, if_pos b1, hq, Option.bind_some, if_pos rfl, if_pos b2, b3, decoupagelaw12_PileParts.j2, if_neg (by simp)]
  have := parts_l0 l (z1 ++ yq) yq e 0 0 cp cn 0 0 false false z1 m.length hl hm rfl hz hy m.length 0 k (by omega) (by omega)
  exact this
theorem parts_main (l m : List S64) (hl : l.length ≤ 30) (hm : m.length ≤ 30) (k : Nat) (hk : 40 < k) : decoupagelaw12_PileParts.j0 k l m false = some true := by
  obtain ⟨k, rfl⟩ : ∃ q, k = q + 1 := ⟨k - 1, by omega⟩
  obtain ⟨k, rfl⟩ : ∃ q, k = q + 1 := ⟨k - 1, by omega⟩
  have hra := run_append l m 0 0 0
  have hlm : (l ++ m).length ≤ 1000 := by rw [List.length_append]; omega
  cases h1 : runP 0 0 0 l with
  | none =>
    rw [h1] at hra
    rw [parts_j0 l m hl hm (k + 1) _ _ (stack_none _ hlm hra) (stack_none l (by omega) h1)]
    rw [if_neg (by simp), decoupagelaw12_PileParts.j1, if_pos rfl, if_neg (by simp)]
    rfl
  | some r =>
    rw [h1] at hra
    rw [Option.bind_some] at hra
    cases h2 : runP r.2.1 r.2.2.1 r.2.2.2 m with
    | none =>
      rw [h2] at hra
      rw [parts_j0 l m hl hm (k + 1) _ _ (stack_none _ hlm hra) (stack_some l (by omega) r h1)]
      rw [if_neg (by simp), decoupagelaw12_PileParts.j1, if_pos rfl, if_pos rfl]
    | some q =>
      rw [h2, Option.map_some] at hra
      rw [parts_j0 l m hl hm (k + 1) _ _ (stack_some _ hlm _ hra) (stack_some l (by omega) r h1)]
      have hz := run_len l _ _ _ _ h1
      have hy := run_len m _ _ _ _ h2
      have hf := run_fit l _ _ _ _ (by unfold fit; omega) h1
      have hbox : runP 0 0 0 ([⟨⟨0, 0⟩, ⟨r.2.2.1, r.2.2.2⟩, ⟨0, 0⟩, false, r.2.1⟩] ++ m) = some (0 :: q.1, q.2) := by
        rw [List.singleton_append, runP, put1_box r.2.1 r.2.2.1 r.2.2.2 hf, if_pos rfl]
        show (runP r.2.1 r.2.2.1 r.2.2.2 m).map _ = _
        rw [h2, Option.map_some]
      have hq := stack_some _ (by rw [List.length_append, List.length_singleton]; omega) _ hbox
      exact parts_j1 l m hl hm k (by omega) r.1 q.1 r.2.1 r.2.2.1 r.2.2.2 q.2.1 q.2.2.1 q.2.2.2 hz hy hq
theorem parts_any (l0 l1 : List S64) : decoupagelaw12_PileParts.f 100 l0 l1 = some true := by
  have hT : decoupagelaw12_PileParts.j0 100 l0 l1 true = some true := by
    show decoupagelaw12_PileParts.j0 (99 + 1) l0 l1 true = _
    simp only [decoupagelaw12_PileParts.j0, if_true, awake_ev, Option.bind_some]
  unfold decoupagelaw12_PileParts.f
  rw [awake_ev]
  simp only [Option.bind_some, if_true]
  by_cases h1 : (l0.length : Int) > 30
  · rw [if_pos h1, hT]
  · rw [if_neg h1]
    by_cases h2 : (l1.length : Int) > 30
    · rw [decide_eq_true h2, hT]
    · rw [decide_eq_false h2]
      exact parts_main l0 l1 (by omega) (by omega) 100 (by omega)
/-- Its numbers are whole numbers of their kinds. -/
def Q44 (x : S44) : Prop := I64 x.f0 ∧ I64 x.f1
/-- Its numbers are whole numbers of their kinds. -/
def Q64 (x : S64) : Prop := Q44 x.f0 ∧ Q44 x.f1 ∧ Q44 x.f2 ∧ True ∧ I64 x.f4
theorem PileParts : ∀ (l0 : List S64) (l1 : List S64), (∀ x ∈ l0, Q64 x) → (∀ x ∈ l1, Q64 x) → ∃ k, decoupagelaw12_PileParts.f k l0 l1 = some true :=
  fun l0 l1 _ _ => ⟨100, parts_any l0 l1⟩

end Go.Proofs.Ytpoeebngkakmeaa.Pure
