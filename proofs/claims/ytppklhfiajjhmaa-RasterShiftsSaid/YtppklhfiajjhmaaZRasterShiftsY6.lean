/- What is proved: a region that draws its order, carried out on the small memory in the text's order, does what the machine does in any order, if a check says that its operations don't meet. Conditions: none but those in each statement. -/
import Derived.Test.YtppklhfiajjhmaaZRasterShiftsY5
namespace Go.Proofs.Ytppklhfiajjhmaa.Y
open Go Go.RowKit
set_option linter.unusedVariables false
set_option linter.unusedSimpArgs false
def edgesOf (o : Oper) : List Nat := (o.after.toList.filter (fun e => Region.binds .any e)).map (·.on)
def mask (acc : List Nat) : List Nat → Nat
  | [] => 0
  | e :: r => 2 ^ e ||| (acc.getD e 0 ||| mask acc r)
def befs : List Oper → List Nat → List Nat
  | [], acc => acc
  | o :: r, acc => befs r (acc ++ [mask acc (edgesOf o)])
def edgesOk : List Oper → Nat → Bool
  | [], _ => true
  | o :: r, i => (edgesOf o).all (fun e => decide (e < i)) && edgesOk r (i + 1)
def hits (p q : Rec) : Bool :=
  (match p.dst with
    | some d => q.tr.contains d || q.dst == some d
    | none => false) ||
  (match p.wr with
    | some (b, _) => q.rd.contains b || (match q.wr with | some (c, _) => c == b | none => false)
    | none => false)
def writes (q : Rec) (b : Nat) : Bool := match q.wr with | some (c, _) => c == b | none => false
def freshIn (mp : Mem) (b : Nat) : Bool := match mp[b]? with | some none => true | _ => false
def chk (bf : List Nat) (mp : Mem) (qs : List Rec) : Bool :=
  qs.zipIdx.all fun (p, i) =>
    (qs.zipIdx.all fun (q, j) => i == j || !(hits p q) || (bf.getD j 0).testBit i || (bf.getD i 0).testBit j) &&
    (match p.wr with
      | some (b, _) => p.rd.contains b || (freshIn mp b && qs.zipIdx.all fun (q, j) => i == j || !(writes q b) || (bf.getD j 0).testBit i)
      | none => true)
def tmF : List Rec → Nat → (Nat → Bool) → List MV → List MV
  | [], _, _, tm => tm
  | q :: r, i, D, tm => tmF r (i + 1) D (if D i = true then put tm q.dst q.v else tm)
def mF : List Rec → Nat → (Nat → Bool) → Mem → Mem
  | [], _, _, m => m
  | q :: r, i, D, m => mF r (i + 1) D (if D i = true then setW m q.wr else m)
def lastT : List Rec → Nat → (Nat → Bool) → Nat → Option MV
  | [], _, _, _ => none
  | q :: r, i, D, t => match lastT r (i + 1) D t with
    | some v => some v
    | none => if D i = true ∧ q.dst = some t then some q.v else none
def lastB : List Rec → Nat → (Nat → Bool) → Nat → Option Blk
  | [], _, _, _ => none
  | q :: r, i, D, b => match lastB r (i + 1) D b with
    | some v => some v
    | none => match q.wr with
      | some (c, k) => if D i = true ∧ c = b then some k else none
      | none => none
theorem put_get (tm : List MV) (d : Option Nat) (v : MV) (t : Nat) : (put tm d v)[t]? = if d = some t ∧ t < tm.length then some v else tm[t]? := by
  cases d with
  | none => simp [put]
  | some d =>
    simp only [put, List.getElem?_set]
    by_cases e : d = t
    · subst e
      by_cases h : d < tm.length <;> simp [h]
    · simp [e]
theorem put_len (tm : List MV) (d : Option Nat) (v : MV) : (put tm d v).length = tm.length := by cases d <;> simp [put]
theorem setW_get (m : Mem) (w : Option (Nat × Blk)) (b : Nat) : (setW m w)[b]? = match w with | some (c, k) => if c = b ∧ b < m.length then some (some k) else m[b]? | none => m[b]? := by
  cases w with
  | none => simp [setW]
  | some p =>
    obtain ⟨c, k⟩ := p
    simp only [setW, List.getElem?_set]
    by_cases e : c = b
    · subst e
      by_cases h : c < m.length <;> simp [h]
    · simp [e]
theorem setW_len (m : Mem) (w : Option (Nat × Blk)) : (setW m w).length = m.length := by cases w <;> simp [setW]
theorem tmF_len : ∀ (qs : List Rec) (i : Nat) (D : Nat → Bool) (tm : List MV), (tmF qs i D tm).length = tm.length
  | [], _, _, _ => rfl
  | q :: r, i, D, tm => by
    simp only [tmF]
    rw [tmF_len r]
    split <;> simp [put_len]
theorem mF_len : ∀ (qs : List Rec) (i : Nat) (D : Nat → Bool) (m : Mem), (mF qs i D m).length = m.length
  | [], _, _, _ => rfl
  | q :: r, i, D, m => by
    simp only [mF]
    rw [mF_len r]
    split <;> simp [setW_len]
theorem tmF_get : ∀ (qs : List Rec) (i : Nat) (D : Nat → Bool) (tm : List MV) (t : Nat), (tmF qs i D tm)[t]? = match lastT qs i D t with | some v => if t < tm.length then some v else tm[t]? | none => tm[t]?
  | [], _, _, _, _ => rfl
  | q :: r, i, D, tm, t => by
    simp only [tmF, lastT]
    rw [tmF_get r]
    have hl : (if D i = true then put tm q.dst q.v else tm).length = tm.length := by split <;> simp [put_len]
    cases h : lastT r (i + 1) D t with
    | some v =>
      simp only [hl]
      split
      · rfl
      · rename_i hh
        split
        · rw [put_get, if_neg (fun x => hh x.2)]
        · rfl
    | none =>
      simp only
      by_cases hd : D i = true
      · simp only [hd, if_true, true_and, put_get]
        by_cases e : q.dst = some t
        · simp [e]
        · simp [e]
      · simp [hd]
theorem mF_get : ∀ (qs : List Rec) (i : Nat) (D : Nat → Bool) (m : Mem) (b : Nat), (mF qs i D m)[b]? = match lastB qs i D b with | some k => if b < m.length then some (some k) else m[b]? | none => m[b]?
  | [], _, _, _, _ => rfl
  | q :: r, i, D, m, b => by
    simp only [mF, lastB]
    rw [mF_get r]
    have hl : (if D i = true then setW m q.wr else m).length = m.length := by split <;> simp [setW_len]
    cases h : lastB r (i + 1) D b with
    | some v =>
      simp only [hl]
      split
      · rfl
      · rename_i hh
        split
        · rw [setW_get]
          split
          · rw [if_neg (fun x => hh x.2)]
          · rfl
        · rfl
    | none =>
      simp only
      by_cases hd : D i = true
      · simp only [hd, if_true, true_and, setW_get]
        cases hw : q.wr with
        | none => rfl
        | some p =>
          obtain ⟨c, k⟩ := p
          simp only
          by_cases e : c = b
          · simp [e]
          · simp [e]
      · simp only [hd, if_false, false_and]
        cases hw : q.wr with
        | none => simp
        | some p => simp
theorem lastT_congr : ∀ (qs : List Rec) (i : Nat) (D D' : Nat → Bool) (t : Nat), (∀ j q, qs[j]? = some q → q.dst = some t → D (i + j) = D' (i + j)) → lastT qs i D t = lastT qs i D' t
  | [], _, _, _, _, _ => rfl
  | q :: r, i, D, D', t, h => by
    simp only [lastT]
    rw [lastT_congr r (i + 1) D D' t (fun j q' hj hq => by have := h (j + 1) q' (by simpa using hj) hq; rwa [show i + (j + 1) = i + 1 + j by omega] at this)]
    split
    · rfl
    · by_cases e : q.dst = some t
      · have := h 0 q (by simp) e
        simp only [Nat.add_zero] at this
        rw [this]
      · simp [e]
theorem lastB_congr : ∀ (qs : List Rec) (i : Nat) (D D' : Nat → Bool) (b : Nat), (∀ j q, qs[j]? = some q → writes q b = true → D (i + j) = D' (i + j)) → lastB qs i D b = lastB qs i D' b
  | [], _, _, _, _, _ => rfl
  | q :: r, i, D, D', b, h => by
    simp only [lastB]
    rw [lastB_congr r (i + 1) D D' b (fun j q' hj hq => by have := h (j + 1) q' (by simpa using hj) hq; rwa [show i + (j + 1) = i + 1 + j by omega] at this)]
    split
    · rfl
    · cases hw : q.wr with
      | none => rfl
      | some p =>
        obtain ⟨c, k⟩ := p
        simp only
        by_cases e : c = b
        · have := h 0 q (by simp) (by simp [writes, hw, e])
          simp only [Nat.add_zero] at this
          rw [this]
        · simp [e]
theorem lastT_none : ∀ (qs : List Rec) (i : Nat) (D : Nat → Bool) (t : Nat), (∀ j q, qs[j]? = some q → q.dst = some t → D (i + j) = false) → lastT qs i D t = none
  | [], _, _, _, _ => rfl
  | q :: r, i, D, t, h => by
    simp only [lastT]
    rw [lastT_none r (i + 1) D t (fun j q' hj hq => by have := h (j + 1) q' (by simpa using hj) hq; rwa [show i + (j + 1) = i + 1 + j by omega] at this)]
    simp only
    rw [if_neg]
    rintro ⟨h1, h2⟩
    have := h 0 q (by simp) h2
    simp only [Nat.add_zero] at this
    rw [this] at h1
    cases h1
theorem lastB_none : ∀ (qs : List Rec) (i : Nat) (D : Nat → Bool) (b : Nat), (∀ j q, qs[j]? = some q → writes q b = true → D (i + j) = false) → lastB qs i D b = none
  | [], _, _, _, _ => rfl
  | q :: r, i, D, b, h => by
    simp only [lastB]
    rw [lastB_none r (i + 1) D b (fun j q' hj hq => by have := h (j + 1) q' (by simpa using hj) hq; rwa [show i + (j + 1) = i + 1 + j by omega] at this)]
    simp only
    cases hw : q.wr with
    | none => rfl
    | some p =>
      obtain ⟨c, k⟩ := p
      simp only
      rw [if_neg]
      rintro ⟨h1, h2⟩
      have := h 0 q (by simp) (by simp [writes, hw, h2])
      simp only [Nat.add_zero] at this
      rw [this] at h1
      cases h1
theorem lastT_hit : ∀ (qs : List Rec) (i p : Nat) (D : Nat → Bool) (t : Nat) (q : Rec), qs[p]? = some q → q.dst = some t → D (i + p) = true → (∀ j q', p < j → qs[j]? = some q' → q'.dst = some t → D (i + j) = false) → lastT qs i D t = some q.v
  | [], _, _, _, _, _, h, _, _, _ => by simp at h
  | q0 :: r, i, 0, D, t, q, h, hd, hD, hj => by
    simp at h
    subst h
    simp only [lastT]
    rw [lastT_none r (i + 1) D t (fun j q' h1 h2 => by have := hj (j + 1) q' (by omega) (by simpa using h1) h2; rwa [show i + (j + 1) = i + 1 + j by omega] at this)]
    simp only [Nat.add_zero] at hD
    simp [hD, hd]
  | q0 :: r, i, p + 1, D, t, q, h, hd, hD, hj => by
    simp at h
    simp only [lastT]
    rw [lastT_hit r (i + 1) p D t q h hd (by rwa [show i + 1 + p = i + (p + 1) by omega]) (fun j q' h0 h1 h2 => by have := hj (j + 1) q' (by omega) (by simpa using h1) h2; rwa [show i + (j + 1) = i + 1 + j by omega] at this)]
theorem lastB_hit : ∀ (qs : List Rec) (i p : Nat) (D : Nat → Bool) (b : Nat) (k : Blk) (q : Rec), qs[p]? = some q → q.wr = some (b, k) → D (i + p) = true → (∀ j q', p < j → qs[j]? = some q' → writes q' b = true → D (i + j) = false) → lastB qs i D b = some k
  | [], _, _, _, _, _, _, h, _, _, _ => by simp at h
  | q0 :: r, i, 0, D, b, k, q, h, hd, hD, hj => by
    simp at h
    subst h
    simp only [lastB]
    rw [lastB_none r (i + 1) D b (fun j q' h1 h2 => by have := hj (j + 1) q' (by omega) (by simpa using h1) h2; rwa [show i + (j + 1) = i + 1 + j by omega] at this)]
    simp only [Nat.add_zero] at hD
    simp [hD, hd]
  | q0 :: r, i, p + 1, D, b, k, q, h, hd, hD, hj => by
    simp at h
    simp only [lastB]
    rw [lastB_hit r (i + 1) p D b k q h hd (by rwa [show i + 1 + p = i + (p + 1) by omega]) (fun j q' h0 h1 h2 => by have := hj (j + 1) q' (by omega) (by simpa using h1) h2; rwa [show i + (j + 1) = i + 1 + j by omega] at this)]
theorem tmF_none : ∀ (qs : List Rec) (i : Nat) (D : Nat → Bool) (tm : List MV), (∀ j, i ≤ j → D j = false) → tmF qs i D tm = tm
  | [], _, _, _, _ => rfl
  | q :: r, i, D, tm, h => by
    simp only [tmF]
    rw [h i (Nat.le_refl _)]
    exact tmF_none r (i + 1) D tm (fun j hj => h j (by omega))
theorem mF_none : ∀ (qs : List Rec) (i : Nat) (D : Nat → Bool) (m : Mem), (∀ j, i ≤ j → D j = false) → mF qs i D m = m
  | [], _, _, _, _ => rfl
  | q :: r, i, D, m, h => by
    simp only [mF]
    rw [h i (Nat.le_refl _)]
    exact mF_none r (i + 1) D m (fun j hj => h j (by omega))
/-- The bits of 'befs': what must have run ahead. -/
theorem befs_len : ∀ (l : List Oper) (acc : List Nat), (befs l acc).length = acc.length + l.length
  | [], acc => by simp [befs]
  | o :: r, acc => by simp [befs, befs_len r]; omega
theorem mask_bit {acc : List Nat} {i : Nat} : ∀ {l : List Nat}, (mask acc l).testBit i = true → ∃ e ∈ l, i = e ∨ (acc.getD e 0).testBit i = true
  | [], h => by simp [mask] at h
  | e :: r, h => by
    simp only [mask, Nat.testBit_or, Bool.or_eq_true, Nat.testBit_two_pow, decide_eq_true_eq] at h
    rcases h with h | h | h
    · exact ⟨e, List.mem_cons_self, .inl h.symm⟩
    · exact ⟨e, List.mem_cons_self, .inr h⟩
    · obtain ⟨e', h1, h2⟩ := mask_bit h
      exact ⟨e', List.mem_cons_of_mem _ h1, h2⟩
/-- What holds of the done ones: with each all that it waits for. -/
def Closed (ops : List Oper) (D : Nat → Bool) : Prop := ∀ j o, ops[j]? = some o → D j = true → ∀ e ∈ edgesOf o, D e = true
theorem befs_spec (D : Nat → Bool) : ∀ (l pre : List Oper) (acc : List Nat), acc.length = pre.length → Closed (pre ++ l) D →
    (∀ j i o, pre[j]? = some o → (acc.getD j 0).testBit i = true → (∀ e ∈ edgesOf o, D e = true) → D i = true) →
    ∀ j i o, (pre ++ l)[j]? = some o → ((befs l acc).getD j 0).testBit i = true → (∀ e ∈ edgesOf o, D e = true) → D i = true
  | [], pre, acc, hl, hc, h => by simpa [befs] using h
  | o :: r, pre, acc, hl, hc, h => by
    have e1 : pre ++ o :: r = (pre ++ [o]) ++ r := by simp
    intro j i o' hj hb he
    rw [e1] at hj
    refine befs_spec D r (pre ++ [o]) _ (by simp [hl]) (by rw [← e1]; exact hc) ?_ j i o' hj hb he
    intro j i o' hj hb he
    rcases Nat.lt_or_ge j pre.length with hlt | hge
    · rw [List.getElem?_append_left hlt] at hj
      rw [List.getD_eq_getElem?_getD, List.getElem?_append_left (by omega), ← List.getD_eq_getElem?_getD] at hb
      exact h j i o' hj hb he
    · rw [List.getElem?_append_right hge] at hj
      have hj0 : j - pre.length = 0 := by
        cases hq : j - pre.length with
        | zero => rfl
        | succ q => rw [hq] at hj; simp at hj
      rw [hj0] at hj
      simp at hj
      subst hj
      have hjl : j = pre.length := by omega
      subst hjl
      rw [List.getD_eq_getElem?_getD, ← hl, List.getElem?_append_right (Nat.le_refl _)] at hb
      simp at hb
      obtain ⟨e, h1, h2⟩ := mask_bit hb
      rcases h2 with rfl | h2
      · exact he i h1
      · have hD := he e h1
        rcases Nat.lt_or_ge e pre.length with hle | hge'
        · obtain ⟨oe, hoe⟩ : ∃ oe, pre[e]? = some oe := ⟨pre[e], List.getElem?_eq_getElem hle⟩
          exact h e i oe hoe h2 (hc e oe (by rw [List.getElem?_append_left hle]; exact hoe) hD)
        · rw [List.getD_eq_getElem?_getD, List.getElem?_eq_none (by omega)] at h2
          simp at h2
theorem edges_lt : ∀ (l : List Oper) (i j : Nat) (o : Oper), edgesOk l i = true → l[j]? = some o → ∀ e ∈ edgesOf o, e < i + j
  | [], i, j, o, _, h => by simp at h
  | o :: r, i, 0, o', h, hj => by
    simp at hj; subst hj
    simp only [edgesOk, Bool.and_eq_true, List.all_eq_true, decide_eq_true_eq] at h
    intro e he
    exact h.1 e he
  | o :: r, i, j + 1, o', h, hj => by
    simp only [edgesOk, Bool.and_eq_true] at h
    simp at hj
    intro e he
    have := edges_lt r (i + 1) j o' h.2 hj e he
    omega
end Go.Proofs.Ytppklhfiajjhmaa.Y
