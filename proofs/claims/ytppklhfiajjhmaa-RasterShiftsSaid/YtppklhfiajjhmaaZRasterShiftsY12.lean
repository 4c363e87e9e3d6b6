/- What is proved: rows of records, as the printed contracts read them and make them. Conditions: none but those in each statement. -/
import Derived.Test.YtppklhfiajjhmaaZRasterShiftsY11
import Derived.Laws.AppendOwn
namespace Go.Proofs.Ytppklhfiajjhmaa.Y
open Go Go.RowKit
set_option linter.unusedVariables false
set_option linter.unusedSimpArgs false
def recV : List (Option IntKind) → Nat → List Int → List Value
  | [], _, _ => []
  | some k :: sh, c, r => .int k (r.getD c 0) :: recV sh (c + 1) r
  | none :: sh, c, r => .bool (r.getD c 0 != 0) :: recV sh (c + 1) r
theorem recC_V : ∀ (sh : List (Option IntKind)) (c : Nat) (r : List Int), recC sh c r = (recV sh c r).map .val
  | [], _, _ => rfl
  | some k :: sh, c, r => by simp [recC, recV, recC_V sh]
  | none :: sh, c, r => by simp [recC, recV, recC_V sh]
theorem recV_len (sh : List (Option IntKind)) (c : Nat) (r : List Int) : (recV sh c r).length = sh.length := by
  have := recC_len sh c r
  rw [recC_V] at this
  simpa using this
theorem recV_one : ∀ (sh : List (Option IntKind)) (c : Nat) (r : List Int), ∀ u ∈ recV sh c r, u.oneCell' = true
  | [], c, r, u, h => by simp [recV] at h
  | some k :: sh, c, r, u, h => by
    simp only [recV, List.mem_cons] at h
    rcases h with rfl | h
    · rfl
    · exact recV_one sh _ r u h
  | none :: sh, c, r, u, h => by
    simp only [recV, List.mem_cons] at h
    rcases h with rfl | h
    · rfl
    · exact recV_one sh _ r u h
def rowsV (sh : List (Option IntKind)) (l : List (List Int)) : List Value := l.flatMap (recV sh 0)
theorem rowsC_V (sh : List (Option IntKind)) (l : List (List Int)) : l.flatMap (recC sh 0) = (rowsV sh l).map .val := by
  unfold rowsV
  induction l with
  | nil => rfl
  | cons r l ih => simp [recC_V, ih]
theorem rowsV_len (sh : List (Option IntKind)) (l : List (List Int)) : (rowsV sh l).length = l.length * sh.length := by
  have := recs_len sh l
  rw [rowsC_V] at this
  simpa using this
theorem rowsV_one (sh : List (Option IntKind)) (l : List (List Int)) : ∀ u ∈ rowsV sh l, u.oneCell' = true := by
  intro u hu
  unfold rowsV at hu
  rw [List.mem_flatMap] at hu
  obtain ⟨r, _, h⟩ := hu
  exact recV_one sh 0 r u h
theorem rows_inv {σ : Sg} {sh : List (Option IntKind)} {l : List (List Int)} {us : List Value} (h : RVs σ (l.flatMap (recC sh 0)) us) : us = rowsV sh l := by
  rw [rowsC_V] at h
  exact RVs.vals_inv h
theorem rows_RVs (σ : Sg) (sh : List (Option IntKind)) (l : List (List Int)) : RVs σ (l.flatMap (recC sh 0)) (rowsV sh l) := by
  rw [rowsC_V]
  exact RVs.vals _
theorem rowsV_get {sh : List (Option IntKind)} {l : List (List Int)} {j i : Nat} {u : Value} (hj : j < l.length) (h : (recV sh 0 (l.getD j []))[i]? = some u) : (rowsV sh l)[j * sh.length + i]? = some u := by
  have hp := recs_part sh hj
  have hl : ((l.take j).flatMap (recC sh 0)).length = j * sh.length := by rw [recs_len]; congr 1; simp; omega
  have hi : i < (recV sh 0 (l.getD j [])).length := (List.getElem?_eq_some_iff.1 h).1
  have e : ((rowsV sh l).map MV.val)[j * sh.length + i]? = some (MV.val u) := by
    rw [← rowsC_V, hp, List.append_assoc, List.getElem?_append_right (by omega), hl, Nat.add_sub_cancel_left, List.getElem?_append_left (by rw [recC_len]; rw [recV_len] at hi; exact hi), recC_V, List.getElem?_map, h]
    rfl
  rw [List.getElem?_map] at e
  obtain ⟨x, h1, h2⟩ := Option.map_eq_some_iff.1 e
  injection h2 with h2
  rw [h1, h2]
/-- A slice whose records are known, cell by cell. -/
def SliceAt (w : World) (u : Value) (sh : List (Option IntKind)) (l : List (List Int)) (ok : Nat → Prop) : Prop :=
  ∃ A c, u = .slice A l.length c ∧ l.length ≤ c ∧ (0 < l.length → ∃ ad : Addr, A = some ad ∧ (ok ad.block ∧ ad.spot = none) ∧ ∀ j, j < l.length → ∀ i v, (recV sh 0 (l.getD j []))[i]? = some v → w.cell? (ad.add (j * sh.length + i)) = some v)
theorem SliceAt.mono {w w' : World} {u : Value} {sh : List (Option IntKind)} {l : List (List Int)} {ok ok' : Nat → Prop} (h : SliceAt w u sh l ok) (hok : ∀ g, ok g → ok' g ∧ w'.heap[g]? = w.heap[g]?) : SliceAt w' u sh l ok' := by
  obtain ⟨A, c, h1, h2, h3⟩ := h
  refine ⟨A, c, h1, h2, fun hn => ?_⟩
  obtain ⟨ad, e1, e2, e3⟩ := h3 hn
  refine ⟨ad, e1, ⟨(hok _ e2.1).1, e2.2⟩, fun j hj i v hv => ?_⟩
  rw [← e3 j hj i v hv]
  have e : (ad.add (j * sh.length + i)).block = ad.block := by unfold Addr.add; split <;> rfl
  exact World.cell?_of_block (by rw [e]; exact (hok _ e2.1).2)
/-- Records of whole numbers, read out of cells. -/
def parseRow : Nat → List MV → Option (List Int × List MV)
  | 0, cs => some ([], cs)
  | s + 1, .val (.int .i64 v) :: cs => match parseRow s cs with
    | some (r, rest) => some (v :: r, rest)
    | none => none
  | _ + 1, _ => none
def parseRows (s : Nat) : Nat → List MV → Option (List (List Int))
  | 0, _ => some []
  | n + 1, cs => match parseRow s cs with
    | some (r, rest) => match parseRows s n rest with
      | some l => some (r :: l)
      | none => none
    | none => none
def i64s (s : Nat) : List (Option IntKind) := List.replicate s (some .i64)
theorem recC_i64 : ∀ (s c : Nat) (pre r : List Int), pre.length = c → r.length = s → recC (i64s s) c (pre ++ r) = r.map (fun v => .val (.int .i64 v))
  | 0, c, pre, r, _, h => by
    have : r = [] := List.eq_nil_of_length_eq_zero h
    subst this
    rfl
  | s + 1, c, pre, [], _, h => by simp at h
  | s + 1, c, pre, v :: r, hp, h => by
    have ih := recC_i64 s (c + 1) (pre ++ [v]) r (by simp [hp]) (by simpa using h)
    simp only [List.append_assoc, List.singleton_append] at ih
    show recC (some .i64 :: i64s s) c (pre ++ v :: r) = _
    simp only [recC, ih, List.map_cons]
    congr 3
    rw [List.getD_eq_getElem?_getD, List.getElem?_append_right (by omega), hp]
    simp
theorem parseRow_ok : ∀ (s : Nat) (cs : List MV) (r : List Int) (rest : List MV), parseRow s cs = some (r, rest) → cs = r.map (fun v => .val (.int .i64 v)) ++ rest ∧ r.length = s
  | 0, cs, r, rest, h => by simp [parseRow] at h; obtain ⟨rfl, rfl⟩ := h; simp
  | s + 1, [], r, rest, h => by simp [parseRow] at h
  | s + 1, c :: cs, r, rest, h => by
    unfold parseRow at h
    split at h
    · rename_i e; cases e
    · rename_i s' v cs' e1 e2
      cases e1
      cases e2
      split at h
      · rename_i r' rest' h1
        simp only [Option.some.injEq, Prod.mk.injEq] at h
        obtain ⟨rfl, rfl⟩ := h
        obtain ⟨g1, g2⟩ := parseRow_ok _ _ _ _ h1
        exact ⟨by rw [g1]; simp, by simp [g2]⟩
      · cases h
    · cases h
theorem parseRows_ok (s : Nat) : ∀ (n : Nat) (cs : List MV) (l : List (List Int)), parseRows s n cs = some l → l.length = n ∧ ∃ rest, cs = l.flatMap (recC (i64s s) 0) ++ rest
  | 0, cs, l, h => by simp [parseRows] at h; subst h; exact ⟨rfl, cs, rfl⟩
  | n + 1, cs, l, h => by
    unfold parseRows at h
    split at h
    · rename_i r rest h1
      split at h
      · rename_i l' h2
        simp only [Option.some.injEq] at h
        subst h
        obtain ⟨g1, g2⟩ := parseRow_ok _ _ _ _ h1
        obtain ⟨g3, rest', g4⟩ := parseRows_ok s n rest l' h2
        refine ⟨by simp [g3], rest', ?_⟩
        have := recC_i64 s 0 [] r rfl g2
        simp only [List.nil_append] at this
        rw [g1, g4, List.flatMap_cons, this, List.append_assoc]
      · cases h
    · cases h
/-- What a slice holds: of the own memory, or from outside (T says what). -/
def rowsOf (T : Nat → Option (List (List Int))) (sh : List (Option IntKind)) (rd : Nat → Option Blk) : MV → Option (List (List Int))
  | .val (.slice none 0 0) => some []
  | .va b 0 n s => match (rd b).bind Blk.rec? with
    | some (sh', l) => bif decide (sh' = sh) then (bif l.length == n then (bif s == sh.length then some l else none) else none) else none
    | none => none
  | .xs x n => match T x with
    | some t => bif t.length == n then some t else none
    | none => none
  | .es => some []
  | .sl b 0 n c => match rd b with
    | some kb => bif decide (n ≤ c) then (bif decide (sh = i64s sh.length) then parseRows sh.length n kb.cells else none) else none
    | none => none
  | _ => none
/-- The same, what has to hold ahead of it. -/
def rowsC (T : Nat → Option (List (List Int))) (sh : List (Option IntKind)) (rd : Nat → Option Blk) (v : MV) : Bool × Option (List (List Int)) :=
  match v with
  | .va b 0 n s => match (rd b).bind Blk.rec? with
    | some (sh', l) => (l.length == n, bif decide (sh' = sh) then (bif s == sh.length then some l else none) else none)
    | none => (true, none)
  | .xs x n => match T x with
    | some t => (t.length == n, some t)
    | none => (true, none)
  | v => (true, rowsOf T sh rd v)
theorem rowsC_ok {T : Nat → Option (List (List Int))} {sh : List (Option IntKind)} {rd : Nat → Option Blk} {v : MV} {l : List (List Int)} (h : rowsC T sh rd v = (true, some l)) : rowsOf T sh rd v = some l := by
  unfold rowsC at h
  split at h
  · rename_i b n s
    split at h
    · rename_i sh' l' hr
      simp only [Prod.mk.injEq] at h
      obtain ⟨h1, h2⟩ := h
      simp only [rowsOf, hr, h1, cond_true]
      exact h2
    · simp at h
  · rename_i x n
    split at h
    · rename_i t ht
      simp only [Prod.mk.injEq] at h
      obtain ⟨h1, h2⟩ := h
      simp only [rowsOf, ht, h1, cond_true]
      exact h2
    · simp at h
  · simpa using h
/-- The lists from outside. -/
def outside (sh : List (Option IntKind)) (T : Nat → Option (List (List Int))) : Env := fun B w0 x => ∀ i t, T i = some t → SliceAt w0 (x i) sh t (fun g => ¬ Own B g)
theorem outside_stable (sh : List (Option IntKind)) (T : Nat → Option (List (List Int))) : Stable (outside sh T) := by
  intro B w0 B' w x h hb ho _ i t hi
  exact (h i t hi).mono (fun g hg => ⟨fun hh => hg (ho g hh), hb.block g hg⟩)
/-- What is read is as it says. -/
theorem rowsOf_ok {sh : List (Option IntKind)} {T : Nat → Option (List (List Int))} {rd : Nat → Option Blk} {v : MV} {l : List (List Int)} (h : rowsOf T sh rd v = some l) {base : Bs} {w0 w : World} {σ : Sg} {u : Value}
    (hX : outside sh T base w0 σ.x) (hb : Bel base w0 w) (hu : RV σ v u) (hr : ∀ b k, b ∈ refs v → rd b = some k → Reads1 σ w b k) : SliceAt w u sh l (fun _ => True) := by
  unfold rowsOf at h
  split at h
  · injection h with h; subst h
    have e := hu.val_inv
    subst e
    exact ⟨none, 0, rfl, Nat.le_refl _, fun hn => absurd hn (Nat.lt_irrefl 0)⟩
  · rename_i b n s
    split at h
    · rename_i sh' l' hrec
      cases h1 : decide (sh' = sh) with
      | false => rw [h1] at h; simp at h
      | true =>
      cases h2 : l'.length == n with
      | false => rw [h1, h2] at h; simp at h
      | true =>
      cases h3 : s == sh.length with
      | false => rw [h1, h2, h3] at h; simp at h
      | true =>
        rw [h1, h2, h3] at h
        simp only [cond_true, Option.some.injEq] at h
        subst h
        have e1 : sh' = sh := of_decide_eq_true h1
        have e2 : l'.length = n := by simpa using h2
        have e3 : s = sh.length := by simpa using h3
        subst e1; subst e2; subst e3
        obtain ⟨kb, hk1, hk2⟩ := Option.bind_eq_some_iff.1 hrec
        obtain ⟨A, c, rfl, hc, hA⟩ := hu.va_inv
        refine ⟨A, c, rfl, hc, fun hn => ?_⟩
        obtain ⟨g, hg, rfl⟩ := hA hn
        refine ⟨_, rfl, ⟨trivial, rfl⟩, fun j hj i u hu' => ?_⟩
        obtain ⟨pre, cs, rest, d1, d2, d3, d4, d5⟩ := hr b kb (by simp [refs]) hk1 g hg
        rw [Blk.rec_cells hk2] at d2
        have := rows_inv d2
        subst this
        have hget := rowsV_get hj hu'
        have := cell_of (o := 0) d1 (by rw [d4]) hget
        simpa using this
    · simp at h
  · rename_i x n
    split at h
    · rename_i t ht
      cases h1 : t.length == n with
      | false => rw [h1] at h; simp at h
      | true =>
        rw [h1] at h
        simp only [cond_true, Option.some.injEq] at h
        subst h
        obtain ⟨e1, _⟩ := hu.xs_inv
        rw [e1]
        exact (hX x t ht).mono (fun g hg => ⟨trivial, hb.block g hg⟩)
    · simp at h
  · simp only [Option.some.injEq] at h
    subst h
    simp only [RV] at hu
    obtain ⟨A, c, rfl⟩ := hu
    exact ⟨A, c, rfl, Nat.zero_le _, fun hn => absurd hn (Nat.lt_irrefl 0)⟩
  · rename_i b n c
    split at h
    · rename_i kb hkb
      cases h1 : decide (n ≤ c) with
      | false => rw [h1] at h; simp at h
      | true =>
      cases h2 : decide (sh = i64s sh.length) with
      | false => rw [h1, h2] at h; simp at h
      | true =>
      rw [h1, h2] at h
      simp only [cond_true] at h
      have e1 : n ≤ c := of_decide_eq_true h1
      have e2 : sh = i64s sh.length := of_decide_eq_true h2
      obtain ⟨g1, rest0, g2⟩ := parseRows_ok _ _ _ _ h
      rw [← e2] at g2
      subst g1
      obtain ⟨g, hg, rfl⟩ := hu.sl_inv
      refine ⟨_, c, rfl, e1, fun hn => ?_⟩
      refine ⟨_, rfl, ⟨trivial, rfl⟩, fun j hj i u hu' => ?_⟩
      obtain ⟨pre, cs, rest, d1, d2, d3, dp, _⟩ := hr b kb (by simp [refs]) hkb g hg
      rw [g2] at d2
      have hl : (l.flatMap (recC sh 0)).length ≤ cs.length := by rw [d2.length]; simp
      have d4 := d2.take (l.flatMap (recC sh 0)).length
      rw [List.take_append_of_le_length (Nat.le_refl _), List.take_length] at d4
      have d5 := rows_inv d4
      have hget := rowsV_get hj hu'
      rw [← d5, List.getElem?_take] at hget
      split at hget
      · have := cell_of (o := 0) d1 (by rw [dp]) hget
        simpa using this
      · cases hget
    · simp at h
  · simp at h
/-- A row of the call's own, taken over. -/
theorem fresh_own {σ : Sg} {w w' : World} {e s n : Nat} {v : Value} {sh : List (Option IntKind)} {l : List (List Int)} (h : w'.ownsRow w.heap.size e s v n (rowsV sh l)) (hn : n = l.length) (hs : s = sh.length) :
    Fresh σ w w' ⟨.recs sh l, e⟩ (fun b => .va b 0 n s) v := by
  obtain ⟨h1, h2⟩ := h
  rcases h2 with ⟨rfl, rfl⟩ | ⟨g, cap, cur, rfl, hg, hh, hc, _, hz, ht⟩
  · right
    intro τ b _
    simp only [RV]
    exact ⟨none, 0, rfl, Nat.le_refl _, fun h => absurd h (Nat.lt_irrefl 0)⟩
  · left
    have hl := rowsV_len sh l
    refine ⟨g, rowsV sh l, cur.toList.drop (n * s), hg, ?_, rows_RVs σ sh l, fun τ b _ hb _ ho => ?_⟩
    · rw [hh]
      congr 2
      apply Array.ext'
      rw [← ht]
      simp
    · simp only [RV]
      exact ⟨_, cap, rfl, hc, fun _ => ⟨g, hb, by simp [ho]⟩⟩
end Go.Proofs.Ytppklhfiajjhmaa.Y
