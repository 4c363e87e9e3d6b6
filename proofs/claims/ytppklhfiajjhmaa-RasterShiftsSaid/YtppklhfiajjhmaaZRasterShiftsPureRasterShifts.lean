/- What is proved: All items, and the grid, moved by as much, the picture is the same. Conditions: none. -/
import Derived.Test.YtppklhfiajjhmaaZRasterShiftsPRasterShiftsx
import Derived.Test.YtppklhfiajjhmaaZRasterShiftsOpens
namespace Go.Proofs.Ytppklhfiajjhmaa.Pure
open Go.RowKit Go.Proofs.Ytppklhfiajjhmaa.PRasterShifts Go.Proofs.YtppklhfiajjhmaaW.PrintWords Go.Proofs.YtppklhfiajjhmaaW.PrintLast
set_option linter.unusedSimpArgs false
set_option linter.unusedVariables false
open Go.Proofs.Ytppklhfiajjhmaa.Opens

/-! ### A rectangle's points, in plain words -/
/-- No point is in it. -/
def emp (r : S37) : Prop := r.f0 ≥ r.f2 ∨ r.f1 ≥ r.f3
instance (r : S37) : Decidable (emp r) := by unfold emp; exact inferInstance
/-- A point is in it. -/
def has (r : S37) (x y : Int) : Prop := r.f0 ≤ x ∧ x < r.f2 ∧ r.f1 ≤ y ∧ y < r.f3
instance (r : S37) (x y : Int) : Decidable (has r x y) := by unfold has; exact inferInstance

theorem holds_eq (r : S37) (x y : Int) : rect_Holds.f r.f0 r.f1 r.f2 r.f3 x y = some (decide (has r x y)) := by
 unfold rect_Holds.f has
 by_cases h1 : x ≥ r.f0
 ·by_cases h2 : x < r.f2
  ·by_cases h3 : y ≥ r.f1
   ·rw [if_pos h1, if_pos h2, if_pos h3]; simp [h1, h2, h3]
   ·rw [if_pos h1, if_pos h2, if_neg h3]; simp [h3]
  ·rw [if_pos h1, if_neg h2]; simp [h2]
 ·rw [if_neg h1]; simp [h1]

/-- Its numbers are whole numbers of their kinds. -/
def Q37 (x : S37) : Prop := I64 x.f0 ∧ I64 x.f1 ∧ I64 x.f2 ∧ I64 x.f3

/-! ### A loop over a list, place by place -/
theorem w64 {n : Int} (h1 : -9223372036854775808 ≤ n) (h2 : n ≤ 9223372036854775807) : wrap64 n = n := by unfold wrap64; omega
theorem mid_lt {α : Type} (l1 : List α) (x : α) (l2 : List α) : ((l1.length : Int) < ((l1 ++ x :: l2).length : Int)) := by simp; omega
theorem mid_ge {α : Type} (l1 : List α) : ¬ ((l1.length : Int) < ((l1 ++ []).length : Int)) := by simp
theorem mid_next {α : Type} (l1 : List α) (x : α) (l2 : List α) (h : (l1 ++ x :: l2).length ≤ 4611686018427387904) : wrap64 ((l1.length : Int) + 1) = ((l1 ++ [x]).length : Int) := by
 simp at h ⊢
 rw [w64 (by omega) (by omega)]
theorem mid_app {α : Type} (l1 : List α) (x : α) (l2 : List α) : l1 ++ x :: l2 = (l1 ++ [x]) ++ l2 := by simp

theorem rd_mid_i (l1 : List Int) (x : Int) (l2 : List Int) : rd (l1 ++ x :: l2) (l1.length : Int) = x := by unfold rd; simp

/-! ### Items: who shows at a point -/
/-- Its numbers are whole numbers of their kinds. -/
def Q39 (x : S39) : Prop := I64 x.f0 ∧ I64 x.f1 ∧ Q37 x.f2 ∧ Q37 x.f3 ∧ Q37 x.f4 ∧ I64 x.f5
/-- An item shows at a point. -/
def shows (i : S39) (x y : Int) : Prop := has i.f2 x y ∧ has i.f4 x y ∧ (i.f1 = 1 → ¬ has i.f3 x y)
instance (i : S39) (x y : Int) : Decidable (shows i x y) := by unfold shows; exact inferInstance
theorem rdi (l : List S39) (n : Nat) : rd_T39 l (n : Int) = l.getD n z39 := by unfold rd_T39; simp
theorem rdi_mid (l1 : List S39) (x : S39) (l2 : List S39) : rd_T39 (l1 ++ x :: l2) (l1.length : Int) = x := by unfold rd_T39; simp
/-- Of the first n the last one that shows. -/
def ownAt (l : List S39) (x y : Int) : Nat → Option Nat
 | 0 => none
 | n + 1 => if shows (l.getD n z39) x y then some n else ownAt l x y n
theorem ownAt_lt (l : List S39) (x y : Int) : ∀ n m, ownAt l x y n = some m → m < n ∧ shows (l.getD m z39) x y ∧ ∀ j, m < j → j < n → ¬ shows (l.getD j z39) x y
 | 0, m, h => by simp [ownAt] at h
 | n + 1, m, h => by
  unfold ownAt at h
  split at h
  ·rename_i hs
   obtain rfl := Option.some.inj h
   exact ⟨by omega, hs, fun j h1 h2 => by omega⟩
  ·rename_i hs
   obtain ⟨h1, h2, h3⟩ := ownAt_lt l x y n m h
   refine ⟨by omega, h2, fun j h4 h5 => ?_⟩
   rcases Nat.lt_or_ge j n with h6 | h6
   ·exact h3 j h4 h6
   ·obtain rfl : j = n := by omega
    exact hs
theorem ownAt_none (l : List S39) (x y : Int) : ∀ n, ownAt l x y n = none → ∀ j, j < n → ¬ shows (l.getD j z39) x y
 | 0, _, j, hj => by omega
 | n + 1, h, j, hj => by
  unfold ownAt at h
  split at h
  ·cases h
  ·rename_i hs
   rcases Nat.lt_or_ge j n with h6 | h6
   ·exact ownAt_none l x y n h j h6
   ·obtain rfl : j = n := by omega
    exact hs
theorem ownAt_app (l l2 : List S39) (x y : Int) : ∀ n, n ≤ l.length → ownAt (l ++ l2) x y n = ownAt l x y n
 | 0, _ => rfl
 | n + 1, h => by
  unfold ownAt
  have e : (l ++ l2).getD n z39 = l.getD n z39 := by
   simp only [List.getD_eq_getElem?_getD]
   rw [List.getElem?_append_left (by omega)]
  rw [e, ownAt_app l l2 x y n (by omega)]
/-- Who owns a point. -/
def ownr (l : List S39) (x y : Int) : Option Nat := ownAt l x y l.length
theorem ownr_snoc (l : List S39) (i : S39) (x y : Int) : ownr (l ++ [i]) x y = if shows i x y then some l.length else ownr l x y := by
 unfold ownr
 rw [List.length_append, List.length_singleton]
 show (if _ then _ else _) = _
 have e : (l ++ [i]).getD l.length z39 = i := by simp
 rw [e, ownAt_app l [i] x y l.length (Nat.le_refl _)]
theorem ownr_lt {l : List S39} {x y : Int} {m : Nat} (h : ownr l x y = some m) : m < l.length := (ownAt_lt l x y _ m h).1

theorem shows_eq (i : S39) (x y : Int) : owner_Shows.f i.f0 i.f1 i.f2.f0 i.f2.f1 i.f2.f2 i.f2.f3 i.f3.f0 i.f3.f1 i.f3.f2 i.f3.f3 i.f4.f0 i.f4.f1 i.f4.f2 i.f4.f3 i.f5 x y = some (decide (shows i x y)) := by
 unfold owner_Shows.f
 rw [holds_eq, holds_eq, holds_eq]
 simp only [Option.bind_some]
 unfold shows
 by_cases h1 : has i.f2 x y <;> by_cases h2 : has i.f4 x y <;> by_cases h3 : i.f1 = 1 <;> by_cases h4 : has i.f3 x y <;> simp [h1, h2, h3, h4]

theorem ofl (l : List S39) (x y : Int) (hl : l.length ≤ 4611686018427387904) : ∀ (n k : Nat), n < k → n ≤ l.length →
  owner_Of.l0 k l x y ((n : Int) - 1) = some (match ownAt l x y n with | some m => ((m : Int), true) | none => (0, false))
 | 0, k, hk, _ => by
  obtain ⟨k, rfl⟩ : ∃ m, k = m + 1 := ⟨k - 1, by omega⟩
  simp only [owner_Of.l0]
  rw [if_neg (by omega)]
  rfl
 | n + 1, k, hk, hn => by
  obtain ⟨k, rfl⟩ : ∃ m, k = m + 1 := ⟨k - 1, by omega⟩
  have e : ((n + 1 : Nat) : Int) - 1 = (n : Int) := by omega
  rw [e]
  simp only [owner_Of.l0]
  rw [if_pos (by omega), if_pos (by omega), if_pos (by omega), rdi, shows_eq, w64 (by omega) (by omega)]
  simp only [Option.bind_some]
  unfold ownAt
  by_cases hs : shows (l.getD n z39) x y
  ·rw [if_pos (by simpa using hs), if_pos hs]
  ·rw [if_neg (by simpa using hs), if_neg hs]
   exact ofl l x y hl n k (by omega) (by omega)
theorem of_eq (l : List S39) (x y : Int) (k : Nat) (hk : l.length < k) (hl : l.length ≤ 4611686018427387904) :
  owner_Of.f k l x y = some (match ownr l x y with | some m => ((m : Int), true) | none => (0, false)) := by
 unfold owner_Of.f
 rw [w64 (by omega) (by omega)]
 exact ofl l x y hl l.length k hk (Nat.le_refl _)

/-! ### The places at which an owner may change: sorted, each once -/
theorem cmp_in (zs : List Int) : ∀ j, j < zs.length → zs.toArray[j]! ∈ Lib.compact zs := by
 intro j
 induction j with
 | zero => intro h; exact List.mem_map.2 ⟨0, List.mem_filter.2 ⟨by simpa using h, by unfold Lib.keeps; simp⟩, rfl⟩
 | succ j ih =>
  intro h
  by_cases hk : zs.toArray[j + 1]! = zs.toArray[j]!
  ·rw [hk]; exact ih (by omega)
  ·exact List.mem_map.2 ⟨j + 1, List.mem_filter.2 ⟨by simpa using h, Lib.keeps_pos hk⟩, rfl⟩
theorem at_to (zs : List Int) (j : Nat) (h : j < zs.length) : zs.toArray[j]! = zs[j] := by
 rw [getElem!_pos zs.toArray j (by simpa using h)]
 simp
theorem cmp_mem (zs : List Int) (x : Int) : x ∈ Lib.compact zs ↔ x ∈ zs := by
 constructor
 ·intro h
  obtain ⟨j, hj, rfl⟩ := List.mem_map.1 h
  have hj' : j < zs.length := by simpa using (List.mem_filter.1 hj).1
  show zs.toArray[j]! ∈ zs
  rw [at_to zs j hj']
  exact List.getElem_mem hj'
 ·intro h
  obtain ⟨j, hj, rfl⟩ := List.mem_iff_getElem.1 h
  rw [← at_to zs j hj]
  exact cmp_in zs j hj
theorem cmp_lt (zs : List Int) (h : zs.Pairwise (· ≤ ·)) : (Lib.compact zs).Pairwise (· < ·) := by
 have hm : ∀ a b, a ≤ b → b < zs.length → zs.toArray[a]! ≤ zs.toArray[b]! := by
  intro a b hab hb
  rw [at_to zs a (by omega), at_to zs b hb]
  rcases Nat.lt_or_ge a b with h1 | h1
  ·exact List.pairwise_iff_getElem.1 h a b (by omega) hb h1
  ·obtain rfl : a = b := by omega
   exact Int.le_refl _
 unfold Lib.compact Lib.compactUpTo
 rw [List.pairwise_map, List.pairwise_filter]
 refine List.pairwise_iff_getElem.2 ?_
 intro i j hi hj hij _ hk
 rw [List.getElem_range] at hk
 rw [List.getElem_range, List.getElem_range]
 have hj' : j < zs.length := by simpa using hj
 have hk' := of_decide_eq_true hk
 have hne : zs.toArray[j]! ≠ zs.toArray[j - 1]! := by
  rcases hk' with h0 | h0
  ·omega
  ·exact h0
 have h1 := hm i (j - 1) (by omega) (by omega)
 have h2 := hm (j - 1) j (by omega) hj'
 omega
theorem edg_lt (s : List Int) : (edg s).Pairwise (· < ·) := by
 refine cmp_lt _ ?_
 have h := List.pairwise_mergeSort (le := fun x y : Int => decide (x ≤ y)) (by intro a b c h1 h2; simp at h1 h2 ⊢; omega) (by intro a b; simp; omega) s
 exact h.imp (fun h => by simpa using h)
theorem edg_mem (s : List Int) (x : Int) : x ∈ edg s ↔ x ∈ s := by
 unfold edg
 rw [cmp_mem, List.mem_mergeSort]
theorem edg_len (s : List Int) : (edg s).length ≤ s.length := by
 unfold edg Lib.compact Lib.compactUpTo
 rw [List.length_map]
 refine Nat.le_trans (List.length_filter_le _ _) ?_
 rw [List.length_range, List.length_mergeSort]
 exact Nat.le_refl _
/-- What edges tells, in plain words. -/
structure Edges (l : List S39) (a b : Int) (E : List Int) : Prop where
 lt : E.Pairwise (· < ·)
 ends : ∃ t, E = a :: t
 last : ∃ t, E = t ++ [b]
 mem : ∀ i ∈ l, ∀ p ∈ places i, a < p → p < b → p ∈ E
 len : E.length ≤ 6 * l.length + 2
theorem edges_ok (l : List S39) (a b : Int) (hab : a < b) (hl : l.length ≤ 1000) : ∃ E, raster_edges.f l a b = some E ∧ Edges l a b E := by
 refine ⟨edg (raster_edges.raw l a b), by unfold raster_edges.f; rw [if_pos hl], ?_⟩
 have hm : ∀ x, x ∈ edg (raster_edges.raw l a b) ↔ x ∈ raster_edges.raw l a b := edg_mem _
 have hlt := edg_lt (raster_edges.raw l a b)
 have hr : ∀ x, x ∈ raster_edges.raw l a b → a ≤ x ∧ x ≤ b := by
  intro x hx
  unfold raster_edges.raw at hx
  simp only [List.mem_append, List.mem_cons, List.not_mem_nil, or_false, List.mem_flatMap, List.mem_filter, Bool.and_eq_true, decide_eq_true_eq] at hx
  rcases hx with (rfl | rfl) | ⟨_, _, _, h1, h2⟩
  ·omega
  ·omega
  ·omega
 have hin : a ∈ edg (raster_edges.raw l a b) := (hm a).2 (by simp [raster_edges.raw])
 have hib : b ∈ edg (raster_edges.raw l a b) := (hm b).2 (by simp [raster_edges.raw])
 have hlen := Nat.le_trans (edg_len (raster_edges.raw l a b)) (raster_edges.raw_len l a b)
 refine ⟨hlt, ?_, ?_, ?_, hlen⟩
 ·cases hE : edg (raster_edges.raw l a b) with
  | nil => rw [hE] at hin; cases hin
  | cons h t =>
   rw [hE] at hin hlt
   have h1 := hr h ((hm h).1 (by rw [hE]; simp))
   rcases List.mem_cons.1 hin with e | e
   ·exact ⟨t, by rw [e]⟩
   ·have := List.rel_of_pairwise_cons hlt e
    omega
 ·rcases List.eq_nil_or_concat (edg (raster_edges.raw l a b)) with hE | ⟨t, z, hE⟩
  ·rw [hE] at hin; cases hin
  ·have hE' : edg (raster_edges.raw l a b) = t ++ [z] := by rw [hE, List.concat_eq_append]
   refine ⟨t, ?_⟩
   rw [hE'] at hib hlt ⊢
   have h1 := hr z ((hm z).1 (by rw [hE']; simp))
   rcases List.mem_append.1 hib with e | e
   ·have := (List.pairwise_append.1 hlt).2.2 b e z (by simp)
    omega
   ·rw [List.mem_singleton.1 e]
 ·intro i hi p hp h1 h2
  refine (hm p).2 ?_
  unfold raster_edges.raw
  refine List.mem_append_right _ (List.mem_flatMap.2 ⟨i, hi, List.mem_filter.2 ⟨hp, by simp [h1, h2]⟩⟩)
/-- Between two places that no item's edge parts, a point has one owner. -/
theorem own_const (l : List S39) (y e x : Int) (hex : e ≤ x) (h : ∀ i ∈ l, ∀ p ∈ places i, ¬ (e < p ∧ p ≤ x)) : ownr l x y = ownr l e y := by
 unfold ownr
 have : ∀ n, n ≤ l.length → ownAt l x y n = ownAt l e y n := by
  intro n
  induction n with
  | zero => intro _; rfl
  | succ n ih =>
   intro hn
   unfold ownAt
   rw [ih (by omega)]
   have hi : l.getD n z39 ∈ l := by rw [List.getD_eq_getElem?_getD, List.getElem?_eq_getElem (by omega)]; exact List.getElem_mem _
   have hp := h _ hi
   generalize l.getD n z39 = i at hp
   unfold places at hp
   simp only [List.mem_cons, List.not_mem_nil, or_false, forall_eq_or_imp, forall_eq] at hp
   have hs2 : shows i x y ↔ shows i e y := by
    unfold shows has
    obtain ⟨h1, h2, h3, h4, h5, h6⟩ := hp
    constructor
    ·rintro ⟨h7, h8, h9⟩
     exact ⟨by omega, by omega, fun h10 h11 => h9 h10 (by omega)⟩
    ·rintro ⟨h7, h8, h9⟩
     exact ⟨by omega, by omega, fun h10 h11 => h9 h10 (by omega)⟩
   by_cases hs : shows i e y
   ·rw [if_pos hs, if_pos (hs2.2 hs)]
   ·rw [if_neg hs, if_neg (fun h => hs (hs2.1 h))]
 exact this l.length (Nat.le_refl _)

/-! ### Runs -/
/-- What Runs has made of the points from a to e. -/
structure RunOK (l : List S39) (y a e : Int) (acc : List S56) : Prop where
 b1 : ∀ r ∈ acc, a ≤ r.f0 ∧ r.f0 < r.f1 ∧ r.f1 ≤ e ∧ 0 ≤ r.f2 ∧ r.f2 < l.length
 ap : acc.Pairwise fun r s => r.f1 ≤ s.f0 ∧ (r.f1 = s.f0 → r.f2 ≠ s.f2)
 c1 : ∀ r ∈ acc, ∀ x, r.f0 ≤ x → x < r.f1 → ownr l x y = some r.f2.toNat
 c2 : ∀ x, a ≤ x → x < e → ∀ n, ownr l x y = some n → ∃ r ∈ acc, r.f0 ≤ x ∧ x < r.f1
theorem RunOK.start (l : List S39) (y a : Int) : RunOK l y a a [] := ⟨by simp, List.Pairwise.nil, by simp, fun x h1 h2 => by omega⟩
theorem RunOK.none_ {l : List S39} {y a e e' : Int} {acc : List S56} (h : RunOK l y a e acc) (he : e ≤ e') (hn : ∀ x, e ≤ x → x < e' → ownr l x y = none) : RunOK l y a e' acc :=
 ⟨fun r hr => by have := h.b1 r hr; omega, h.ap, h.c1, fun x h1 h2 n hx => by
  rcases Int.lt_or_le x e with h3 | h3
  ·exact h.c2 x h1 h3 n hx
  ·rw [hn x h3 h2] at hx; cases hx⟩
theorem RunOK.snoc {l : List S39} {y a e e' : Int} {acc : List S56} {n : Nat} (h : RunOK l y a e acc) (hae : a ≤ e) (he : e < e') (hnl : n < l.length) (hn : ∀ x, e ≤ x → x < e' → ownr l x y = some n) (hlast : ∀ r ∈ acc, r.f1 = e → r.f2 ≠ (n : Int)) : RunOK l y a e' (acc ++ [⟨e, e', (n : Int)⟩]) := by
 refine ⟨?_, ?_, ?_, ?_⟩
 ·intro r hr
  rcases List.mem_append.1 hr with hr | hr
  ·have := h.b1 r hr; omega
  ·rw [List.mem_singleton.1 hr]; simp; omega
 ·rw [List.pairwise_append]
  refine ⟨h.ap, List.pairwise_singleton _ _, fun r hr s hs => ?_⟩
  rw [List.mem_singleton.1 hs]
  exact ⟨(h.b1 r hr).2.2.1, fun e1 => hlast r hr e1⟩
 ·intro r hr x h1 h2
  rcases List.mem_append.1 hr with hr | hr
  ·exact h.c1 r hr x h1 h2
  ·rw [List.mem_singleton.1 hr] at h1 h2 ⊢
   rw [hn x h1 h2]; simp
 ·intro x h1 h2 m hx
  rcases Int.lt_or_le x e with h3 | h3
  ·obtain ⟨r, hr, h4⟩ := h.c2 x h1 h3 m hx
   exact ⟨r, List.mem_append_left _ hr, h4⟩
  ·exact ⟨_, List.mem_append_right _ (List.mem_singleton.2 rfl), h3, h2⟩
theorem RunOK.more {l : List S39} {y a e e' : Int} {init : List S56} {r : S56} {n : Nat} (h : RunOK l y a e (init ++ [r])) (he : e < e') (hn : ∀ x, e ≤ x → x < e' → ownr l x y = some n) (h1 : r.f1 = e) (h2 : r.f2 = (n : Int)) : RunOK l y a e' (init ++ [⟨r.f0, e', r.f2⟩]) := by
 have hr0 := h.b1 r (by simp)
 have hap := List.pairwise_append.1 h.ap
 refine ⟨?_, ?_, ?_, ?_⟩
 ·intro q hq
  rcases List.mem_append.1 hq with hq | hq
  ·have := h.b1 q (List.mem_append_left _ hq); omega
  ·rw [List.mem_singleton.1 hq]; simp only; omega
 ·rw [List.pairwise_append]
  refine ⟨hap.1, List.pairwise_singleton _ _, fun q hq s hs => ?_⟩
  rw [List.mem_singleton.1 hs]
  exact hap.2.2 q hq r (by simp)
 ·intro q hq x h3 h4
  rcases List.mem_append.1 hq with hq | hq
  ·exact h.c1 q (List.mem_append_left _ hq) x h3 h4
  ·rw [List.mem_singleton.1 hq] at h3 h4 ⊢
   simp only at h3 h4 ⊢
   rcases Int.lt_or_le x e with h5 | h5
   ·exact h.c1 r (by simp) x h3 (by omega)
   ·rw [hn x h5 h4, h2]; simp
 ·intro x h3 h4 m hx
  rcases Int.lt_or_le x e with h5 | h5
  ·obtain ⟨q, hq, h6⟩ := h.c2 x h3 h5 m hx
   rcases List.mem_append.1 hq with hq | hq
   ·exact ⟨q, List.mem_append_left _ hq, h6⟩
   ·rw [List.mem_singleton.1 hq] at h6
    exact ⟨_, List.mem_append_right _ (List.mem_singleton.2 rfl), h6.1, by simp only; omega⟩
  ·exact ⟨_, List.mem_append_right _ (List.mem_singleton.2 rfl), by simp only; omega, h4⟩
theorem rdr_mid (l1 : List S56) (x : S56) (l2 : List S56) : rd_T56 (l1 ++ x :: l2) (l1.length : Int) = x := by unfold rd_T56; simp
theorem set_last {α : Type} (init : List α) (r s : α) : (init ++ [r]).set init.length s = init ++ [s] := by simp
theorem runs_l0 (l : List S39) (y a b : Int) (hl : l.length ≤ 1000) (E : List Int) (hE : Edges l a b E) : ∀ (E2 E1 : List Int) (e : Int) (acc : List S56) (k : Nat), E1 ++ e :: E2 = E → RunOK l y a e acc → acc.length ≤ E1.length → l.length + E2.length < k →
  ∃ R, raster_Runs.l0 k l y acc E (E.take (E.length - 1)) ((E.length - 1 : Nat) : Int) (E1.length : Int) = some R ∧ RunOK l y a b R ∧ R.length ≤ E.length := by
 have hElen := hE.len
 intro E2
 induction E2 with
 | nil =>
  intro E1 e acc k h1 h2 h3 h4
  obtain ⟨k, rfl⟩ : ∃ m, k = m + 1 := ⟨k - 1, by omega⟩
  simp only [raster_Runs.l0]
  have hl1 : E.length - 1 = E1.length := by rw [← h1]; simp
  rw [hl1, if_neg (by omega)]
  refine ⟨acc, rfl, ?_, by omega⟩
  obtain ⟨t, ht⟩ := hE.last
  have : e = b := by
   have h5 := h1.trans ht
   exact (List.append_inj' h5 rfl).2 |> List.singleton_inj.1
  rw [← this]
  exact h2
 | cons e' E2 ih =>
  intro E1 e acc k h1 h2 h3 h4
  obtain ⟨k, rfl⟩ : ∃ m, k = m + 1 := ⟨k - 1, by omega⟩
  have hlen : E.length = E1.length + E2.length + 2 := by rw [← h1]; simp; omega
  have hpw := hE.lt
  rw [← h1] at hpw
  have hee : e < e' := List.rel_of_pairwise_cons (List.pairwise_append.1 hpw).2.1 (by simp)
  have hae : a ≤ e := by
   obtain ⟨t, ht⟩ := hE.ends
   cases E1 with
   | nil => rw [ht] at h1; simp at h1; omega
   | cons h0 E1 =>
    rw [ht] at h1
    simp only [List.cons_append, List.cons.injEq] at h1
    have := (List.pairwise_append.1 hpw).2.2 h0 (by simp) e (by simp)
    omega
  have heb : e' ≤ b := by
   obtain ⟨t, ht⟩ := hE.last
   have hb : b ∈ E := by rw [ht]; simp
   have hp2 := hE.lt
   rw [ht] at hp2
   have he' : e' ∈ t ++ [b] := by rw [← ht, ← h1]; simp
   rcases List.mem_append.1 he' with h5 | h5
   ·have := (List.pairwise_append.1 hp2).2.2 e' h5 b (by simp); omega
   ·rw [List.mem_singleton.1 h5]; omega
  have hconst : ∀ x, e ≤ x → x < e' → ownr l x y = ownr l e y := by
   intro x h5 h6
   refine own_const l y e x h5 ?_
   rintro i hi p hp ⟨h7, h8⟩
   have hpE : p ∈ E := hE.mem i hi p hp (by omega) (by omega)
   rw [← h1] at hpE
   rcases List.mem_append.1 hpE with h9 | h9
   ·have := (List.pairwise_append.1 hpw).2.2 p h9 e (by simp); omega
   ·rcases List.mem_cons.1 h9 with h9 | h9
    ·omega
    ·have hp3 := (List.pairwise_append.1 hpw).2.1
     rw [List.pairwise_cons] at hp3
     rcases List.mem_cons.1 h9 with h10 | h10
     ·omega
     ·have := List.rel_of_pairwise_cons hp3.2 h10; omega
  have ht : E.take (E.length - 1) = E1 ++ e :: (e' :: E2).take E2.length := by
   rw [hlen, ← h1, List.take_append]
   rw [List.take_of_length_le (by omega), show E1.length + E2.length + 2 - 1 - E1.length = E2.length + 1 by omega]
   rfl
  have hr1 : rd (E.take (E.length - 1)) (E1.length : Int) = e := by rw [ht]; exact rd_mid_i _ _ _
  have hw : wrap64 ((E1.length : Int) + 1) = ((E1 ++ [e]).length : Int) := by rw [w64 (by omega) (by omega)]; simp
  have hr2 : rd E (((E1 ++ [e]).length : Nat) : Int) = e' := by
   rw [← h1, show E1 ++ e :: e' :: E2 = (E1 ++ [e]) ++ e' :: E2 by simp]
   exact rd_mid_i _ _ _
  have htl : (E.take (E.length - 1)).length = E.length - 1 := by rw [List.length_take]; omega
  have ih' := fun acc h2 h3 => ih (E1 ++ [e]) e' acc k (by rw [← h1]; simp) h2 h3 (by simp at h4; omega)
  have hn1 : ((E1 ++ [e]).length : Int) = E1.length + 1 := by simp
  simp only [raster_Runs.l0]
  rw [if_pos (by omega), if_pos (by omega), if_pos (by rw [htl]; omega), hr1, hw, of_eq l e y k (by simp at h4; omega) (by omega), hr2]
  simp only [Option.bind_some]
  cases ho : ownr l e y with
  | none =>
   simp only [Bool.false_eq_true, if_false]
   exact ih' acc (h2.none_ (by omega) (fun x h5 h6 => by rw [hconst x h5 h6, ho])) (by simp; omega)
  | some n =>
   have hnl := ownr_lt ho
   have hc : ∀ x, e ≤ x → x < e' → ownr l x y = some n := fun x h5 h6 => by rw [hconst x h5 h6, ho]
   simp only [if_true]
   rcases List.eq_nil_or_concat acc with rfl | ⟨init, r, hacc⟩
   ·rw [if_neg (by unfold wrap64; simp only [List.length_nil]; omega), if_pos (by omega), if_pos (by omega), if_pos (by simp)]
    exact ih' _ (h2.snoc hae hee hnl hc (by simp)) (by simp)
   ·have hacc' : acc = init ++ [r] := by rw [hacc, List.concat_eq_append]
    subst hacc'
    have hil : wrap64 (((init ++ [r]).length : Int) - 1) = (init.length : Int) := by simp only [List.length_append, List.length_singleton] at h3 ⊢; rw [w64 (by omega) (by omega)]; omega
    have hrr : rd_T56 (init ++ [r]) (init.length : Int) = r := rdr_mid init r []
    rw [hil, if_pos (by omega), if_pos (by omega), if_pos (by simp only [List.length_append, List.length_singleton]; omega), hrr]
    have hsnoc : (∀ q ∈ init ++ [r], q.f1 = e → q.f2 ≠ (n : Int)) → _ := fun hq => ih' _ (h2.snoc hae hee hnl hc hq) (by simp only [List.length_append, List.length_singleton] at h3 ⊢; omega)
    have hinit : ∀ q ∈ init, q.f1 < e := by
     intro q hq
     have h5 := (List.pairwise_append.1 h2.ap).2.2 q hq r (by simp)
     have h6 := h2.b1 r (by simp)
     omega
    by_cases hf2 : r.f2 = (n : Int)
    ·rw [if_pos hf2]
     by_cases hf1 : r.f1 = e
     ·rw [if_pos hf1, if_pos (by omega), if_pos (by omega), Int.toNat_natCast, set_last]
      exact ih' _ (h2.more hee hc hf1 hf2) (by simp only [List.length_append, List.length_singleton] at h3 ⊢; omega)
     ·rw [if_neg hf1, if_pos (by omega), if_pos (by omega), if_pos (by simp only [List.length_append, List.length_singleton] at h3 ⊢; omega)]
      refine hsnoc ?_
      intro q hq h5
      rcases List.mem_append.1 hq with hq | hq
      ·have := hinit q hq; omega
      ·rw [List.mem_singleton.1 hq] at h5; exact absurd h5 hf1
    ·rw [if_neg hf2, if_pos (by omega), if_pos (by omega), if_pos (by simp only [List.length_append, List.length_singleton] at h3 ⊢; omega)]
     refine hsnoc ?_
     intro q hq h5
     rcases List.mem_append.1 hq with hq | hq
     ·have := hinit q hq; omega
     ·rw [List.mem_singleton.1 hq]; exact hf2
theorem runs_f (l : List S39) (y a b : Int) (hl : l.length ≤ 1000) (hab : a < b) (k : Nat) (hk : 7 * l.length + 4 < k) : ∃ R, raster_Runs.f k l y a b = some R ∧ RunOK l y a b R ∧ R.length ≤ 6 * l.length + 2 := by
 obtain ⟨E, he, hE⟩ := edges_ok l a b hab hl
 unfold raster_Runs.f
 rw [if_neg (by omega), he]
 simp only [Option.bind_some]
 have hElen := hE.len
 obtain ⟨t, ht⟩ := hE.ends
 have hpos : 1 ≤ E.length := by rw [ht]; simp
 have hw : wrap64 ((E.length : Int) - 1) = ((E.length - 1 : Nat) : Int) := by rw [w64 (by omega) (by omega)]; omega
 have htl : (E.take (E.length - 1)).length = E.length - 1 := by rw [List.length_take]; omega
 rw [hw, if_pos (by omega), if_pos (by omega), Int.toNat_natCast, htl]
 have htl2 : t.length = E.length - 1 := by rw [ht]; simp
 obtain ⟨R, h1, h2, h3⟩ := runs_l0 l y a b hl E hE t [] a [] k (by simp [ht]) (RunOK.start l y a) (by simp) (by omega)
 exact ⟨R, h1, h2, by omega⟩

/-! ### Grids that may be -/
def okG (X Y S W H : Int) : Prop := 1 ≤ W ∧ 1 ≤ H ∧ W ≤ 4096 ∧ H ≤ 4096 ∧ W * H ≤ 4096 ∧ 1 ≤ S ∧ S ≤ 1099511627776 ∧ -1099511627776 ≤ X ∧ X ≤ 1099511627776 ∧ -1099511627776 ≤ Y ∧ Y ≤ 1099511627776
instance (X Y S W H : Int) : Decidable (okG X Y S W H) := by unfold okG; exact inferInstance
theorem within_eq (n : Int) : raster_within.f n 1099511627776 = some (decide (-1099511627776 ≤ n ∧ n ≤ 1099511627776)) := by
 unfold raster_within.f
 rw [show wrap64 (-1099511627776) = -1099511627776 from by unfold wrap64; omega]
 by_cases h1 : n ≥ -1099511627776
 ·rw [if_pos h1]; simp [show -1099511627776 ≤ n from h1]
 ·rw [if_neg h1]; simp [show ¬ -1099511627776 ≤ n from h1]
theorem wh_le {W H : Int} (h1 : 1 ≤ W) (h2 : 1 ≤ H) (h3 : W ≤ 4096) (h4 : H ≤ 4096) : 1 ≤ W * H ∧ W * H ≤ 16777216 := by
 constructor
 ·have := Int.mul_le_mul h1 h2 (by omega) (by omega); omega
 ·have := Int.mul_le_mul h3 h4 (by omega) (by omega); omega
theorem right_eq (X Y S W H : Int) (k : Nat) (hk : 0 < k) : raster_Grid_right.f k X Y S W H = some (decide (okG X Y S W H)) := by
 obtain ⟨k, rfl⟩ : ∃ m, k = m + 1 := ⟨k - 1, by omega⟩
 unfold raster_Grid_right.f okG
 by_cases h1 : W < 1
 ·rw [if_pos h1]; simp only [raster_Grid_right.j0, if_true]; simp [show ¬ 1 ≤ W by omega]
 rw [if_neg h1]
 by_cases h2 : H < 1
 ·rw [if_pos h2]; simp only [raster_Grid_right.j0, if_true]; simp [show ¬ 1 ≤ H by omega]
 rw [if_neg h2]
 by_cases h3 : W > 4096
 ·rw [if_pos h3]; simp only [raster_Grid_right.j0, if_true]; simp [show ¬ W ≤ 4096 by omega]
 rw [if_neg h3]
 by_cases h4 : H > 4096
 ·rw [if_pos h4]; simp only [raster_Grid_right.j0, if_true]; simp [show ¬ H ≤ 4096 by omega]
 rw [if_neg h4]
 have h5 := wh_le (W := W) (H := H) (by omega) (by omega) (by omega) (by omega)
 rw [w64 (by omega) (by omega)]
 simp only [raster_Grid_right.j0]
 by_cases h6 : W * H > 4096
 ·rw [if_pos (by simpa using h6)]; simp [show ¬ W * H ≤ 4096 by omega]
 rw [if_neg (by simpa using h6), within_eq, within_eq]
 simp only [Option.bind_some]
 by_cases h7 : S ≥ 1 <;> by_cases h8 : S ≤ 1099511627776 <;> by_cases h9 : -1099511627776 ≤ X ∧ X ≤ 1099511627776 <;> by_cases h10 : -1099511627776 ≤ Y ∧ Y ≤ 1099511627776 <;> simp [h7, h8, h9, h10, show 1 ≤ W by omega, show 1 ≤ H by omega, show W ≤ 4096 by omega, show H ≤ 4096 by omega, show W * H ≤ 4096 by omega] <;> omega

/-! ### Draw -/
/-- What an item list shows at a point. -/
def colr (l : List S39) (x y : Int) : Int := match ownr l x y with | some m => (l.getD m z39).f5 | none => 0
/-- A row of the picture, and some rows. -/
def picRow (l : List S39) (X S : Int) (W : Nat) (y : Int) : List Int := (List.range W).map fun (j : Nat) => colr l (X + (j : Int) * S) y
def pic (l : List S39) (X Y S : Int) (W n : Nat) : List Int := (List.range n).flatMap fun (i : Nat) => picRow l X S W (Y + (i : Int) * S)
theorem pic_succ (l : List S39) (X Y S : Int) (W n : Nat) : pic l X Y S W (n + 1) = pic l X Y S W n ++ picRow l X S W (Y + (n : Int) * S) := by
 unfold pic
 rw [List.range_succ, List.flatMap_append]
 simp
theorem pic_len (l : List S39) (X Y S : Int) (W n : Nat) : (pic l X Y S W n).length = n * W := by
 induction n with
 | zero => simp [pic]
 | succ n ih => rw [pic_succ, List.length_append, ih, Nat.succ_mul]; simp [picRow]
theorem set_rm (W : Nat) (g : Nat → Int) (c : Nat) (v : Int) : ((List.range W).map g).set c v = (List.range W).map fun j => if j = c then v else g j := by
 apply List.ext_getElem (by simp)
 intro j h1 h2
 simp only [List.getElem_set, List.getElem_map, List.getElem_range]
 by_cases h : c = j
 ·simp [h]
 ·simp [h, Ne.symm h]
theorem rm_congr (W : Nat) (g g' : Nat → Int) (h : ∀ j, j < W → g j = g' j) : (List.range W).map g = (List.range W).map g' := List.map_congr_left fun j hj => h j (by simpa using hj)
theorem js_le {S : Int} (hS : 1 ≤ S) (hS2 : S ≤ 1099511627776) {a b : Nat} (h : a ≤ b) (hb : b ≤ 4096) : 0 ≤ (a : Int) * S ∧ (a : Int) * S ≤ (b : Int) * S ∧ (b : Int) * S ≤ 4503599627370496 := by
 refine ⟨Int.mul_nonneg (by omega) (by omega), Int.mul_le_mul_of_nonneg_right (by omega) (by omega), ?_⟩
 have := Int.mul_le_mul (a := (b : Int)) (b := S) (c := 4096) (d := 1099511627776) (by omega) hS2 (by omega) (by omega)
 omega
def fillc (X S f1 col : Int) (g : Nat → Int) (c : Nat) : Nat → Int := fun j => if c ≤ j ∧ X + (j : Int) * S < f1 then col else g j
set_option maxHeartbeats 2000000 in
theorem draw_l2 (l : List S39) (x6 : List Int) (X Y S : Int) (W : Nat) (H row : Int) (R : List S56) (n44 n45 f0 f1 f2 H2 : Int) (hS : 1 ≤ S) (hS2 : S ≤ 1099511627776) (hX : -1099511627776 ≤ X ∧ X ≤ 1099511627776) (hW : W ≤ 4096) (hf : 0 ≤ f2 ∧ f2 < l.length) (r : List Int × Int) :
  ∀ (d c : Nat), c + d = W → ∀ g : Nat → Int, Ev (fun k => raster_Draw.l1 k l x6 ((List.range W).map (fillc X S f1 (rd_T39 l f2).f5 g c)) H row R n44 (wrap64 (n45 + 1)) X Y S (W : Int) H2) r →
   Ev (fun k => raster_Draw.l2 k l x6 ((List.range W).map g) (c : Int) H row R n44 n45 X Y S (W : Int) H2 f0 f1 f2) r := by
 intro d
 induction d with
 | zero =>
  intro c hc g h
  obtain ⟨K, hK⟩ := h
  refine ⟨K + 1, fun k hk => ?_⟩
  obtain ⟨k, rfl⟩ : ∃ m, k = m + 1 := ⟨k - 1, by omega⟩
  simp only [raster_Draw.l2]
  rw [if_neg (by omega), rm_congr W g (fillc X S f1 (rd_T39 l f2).f5 g c) (fun j hj => by unfold fillc; rw [if_neg (by omega)])]
  exact hK k (by omega)
 | succ d ih =>
  intro c hc g h
  have hj := js_le hS hS2 (a := c) (b := W) (by omega) hW
  by_cases h1 : X + (c : Int) * S < f1
  ·have h' := ih (c + 1) (by omega) (fun j => if j = c then (rd_T39 l f2).f5 else g j) (by
    rw [rm_congr W _ (fillc X S f1 (rd_T39 l f2).f5 g c) (fun j hj => by
     unfold fillc
     dsimp only
     by_cases e : j = c
     ·subst e; rw [if_neg (by omega), if_pos rfl, if_pos ⟨by omega, h1⟩]
     ·rw [if_neg e]
      by_cases e2 : c + 1 ≤ j ∧ X + (j : Int) * S < f1
      ·rw [if_pos e2, if_pos ⟨by omega, e2.2⟩]
      ·rw [if_neg e2, if_neg (fun e3 => e2 ⟨by omega, e3.2⟩)])]
    exact h)
   obtain ⟨K, hK⟩ := h'
   refine ⟨K + 1, fun k hk => ?_⟩
   obtain ⟨k, rfl⟩ : ∃ m, k = m + 1 := ⟨k - 1, by omega⟩
   have e1 : wrap64 ((c : Int) * S) = (c : Int) * S := w64 (by omega) (by omega)
   have e2 : wrap64 (X + (c : Int) * S) = X + (c : Int) * S := w64 (by omega) (by omega)
   have e3 : wrap64 ((c : Int) + 1) = ((c + 1 : Nat) : Int) := by rw [w64 (by omega) (by omega)]; omega
   simp only [raster_Draw.l2]
   have q1 : (c : Int) < (W : Int) := by omega
   have q2 : (c : Int) < (((List.range W).map g).length : Int) := by rw [List.length_map, List.length_range]; exact q1
   rw [if_pos q1, e1, e2, if_pos h1, if_pos hf.1, if_pos hf.2, if_pos (Int.natCast_nonneg c), if_pos q2, e3, Int.toNat_natCast, set_rm]
   exact hK k (by omega)
  ·obtain ⟨K, hK⟩ := h
   refine ⟨K + 1, fun k hk => ?_⟩
   obtain ⟨k, rfl⟩ : ∃ m, k = m + 1 := ⟨k - 1, by omega⟩
   have e1 : wrap64 ((c : Int) * S) = (c : Int) * S := w64 (by omega) (by omega)
   have e2 : wrap64 (X + (c : Int) * S) = X + (c : Int) * S := w64 (by omega) (by omega)
   simp only [raster_Draw.l2]
   have q1 : (c : Int) < (W : Int) := by omega
   rw [if_pos q1, e1, e2, if_neg h1, rm_congr W g (fillc X S f1 (rd_T39 l f2).f5 g c) (fun j hj => by
    unfold fillc
    rw [if_neg]
    rintro ⟨h2, h3⟩
    have := js_le hS hS2 (a := c) (b := j) h2 (by omega)
    omega)]
   exact hK k (by omega)
theorem ceil_le {d S : Int} (hd : 0 ≤ d) (hS : 1 ≤ S) (j : Int) : (d + S - 1) / S ≤ j ↔ d ≤ j * S := by
 have h1 := Int.emod_add_mul_ediv (d + S - 1) S
 have h2 := Int.emod_nonneg (d + S - 1) (show S ≠ 0 by omega)
 have h3 := Int.emod_lt_of_pos (d + S - 1) (show 0 < S by omega)
 generalize (d + S - 1) / S = q at h1 ⊢
 constructor
 ·intro h
  have := Int.mul_le_mul_of_nonneg_left h (show 0 ≤ S by omega)
  rw [Int.mul_comm j S]
  omega
 ·intro h
  rcases Int.lt_or_le j q with h4 | h4
  ·exfalso
   have := Int.mul_le_mul_of_nonneg_left (show j + 1 ≤ q by omega) (show 0 ≤ S by omega)
   rw [Int.mul_add, Int.mul_comm S j] at this
   omega
  ·exact h4
def inRun (R : List S56) (p : Int) : Bool := R.any fun r => decide (r.f0 ≤ p) && decide (p < r.f1)
def lineR (l : List S39) (X S y : Int) (R : List S56) : Nat → Int := fun j => if inRun R (X + (j : Int) * S) = true then colr l (X + (j : Int) * S) y else 0
set_option maxHeartbeats 2000000 in
theorem draw_l1 (l : List S39) (x6 : List Int) (X Y S y : Int) (W : Nat) (H row : Int) (R : List S56) (H2 : Int) (hS : 1 ≤ S) (hS2 : S ≤ 1099511627776) (hX : -1099511627776 ≤ X ∧ X ≤ 1099511627776) (hW : W ≤ 4096) (hR : RunOK l y X (X + (W : Int) * S) R) (hRl : R.length ≤ 1000000) (h6 : x6.length ≤ 100000000) (r : List Int × Int)
  (h : Ev (fun k => raster_Draw.l0 k l (x6 ++ (List.range W).map (lineR l X S y R)) H (wrap64 (row + 1)) X Y S (W : Int) H2) r) :
  ∀ (R2 R1 : List S56), R1 ++ R2 = R → Ev (fun k => raster_Draw.l1 k l x6 ((List.range W).map (lineR l X S y R1)) H row R (R.length : Int) (R1.length : Int) X Y S (W : Int) H2) r := by
 intro R2
 induction R2 with
 | nil =>
  intro R1 h1
  obtain rfl : R1 = R := by simpa using h1
  obtain ⟨K, hK⟩ := h
  refine ⟨K + 1, fun k hk => ?_⟩
  obtain ⟨k, rfl⟩ : ∃ m, k = m + 1 := ⟨k - 1, by omega⟩
  simp only [raster_Draw.l1]
  rw [if_neg (by omega), if_pos (by simp; omega)]
  exact hK k (by omega)
 | cons q R2 ih =>
  intro R1 h1
  have hq : q ∈ R := by rw [← h1]; simp
  have hb := hR.b1 q hq
  have hWS := js_le hS hS2 (a := 0) (b := W) (by omega) hW
  have hd : 0 ≤ q.f0 - X := by omega
  have hc := fun j => ceil_le hd hS j
  have hc0 : 0 ≤ (q.f0 - X + S - 1) / S := Int.ediv_nonneg (by omega) (by omega)
  obtain ⟨c, hcn⟩ := Int.eq_ofNat_of_zero_le hc0
  have hcW : c ≤ W := by have := (hc (W : Int)).2 (by omega); omega
  have ih' := ih (R1 ++ [q]) (by rw [← h1]; simp)
  have hmem : ∀ j : Nat, c ≤ j ↔ q.f0 ≤ X + (j : Int) * S := by
   intro j
   have := hc (j : Int)
   rw [hcn] at this
   constructor
   ·intro h2; have := this.1 (by omega); omega
   ·intro h2; have := this.2 (by omega); omega
  have hstep := draw_l2 l x6 X Y S W H row R (R.length : Int) (R1.length : Int) q.f0 q.f1 q.f2 H2 hS hS2 hX hW hb.2.2.2 r (W - c) c (by omega) (lineR l X S y R1) (by
   have e3 : wrap64 ((R1.length : Int) + 1) = ((R1 ++ [q]).length : Int) := by
    have : R1.length + (q :: R2).length = R.length := by rw [← h1]; simp
    simp at this ⊢
    rw [w64 (by omega) (by omega)]
   rw [e3, rm_congr W _ (lineR l X S y (R1 ++ [q])) (fun j hj => by
    unfold fillc lineR inRun
    rw [List.any_append]
    by_cases h2 : c ≤ j ∧ X + (j : Int) * S < q.f1
    ·have h3 := (hmem j).1 h2.1
     rw [if_pos h2, if_pos (by simp [h2.2, h3])]
     have h4 := hR.c1 q hq _ h3 h2.2
     unfold colr
     rw [h4]
     unfold rd_T39
     rfl
    ·rw [if_neg h2]
     have h3 : ¬ (q.f0 ≤ X + (j : Int) * S ∧ X + (j : Int) * S < q.f1) := fun h3 => h2 ⟨(hmem j).2 h3.1, h3.2⟩
     have h4 : ([q].any fun r => decide (r.f0 ≤ X + (j : Int) * S) && decide (X + (j : Int) * S < r.f1)) = false := by
      rw [List.any_cons, List.any_nil, Bool.or_false]
      by_cases g1 : q.f0 ≤ X + (j : Int) * S
      ·simp [g1, show ¬ X + (j : Int) * S < q.f1 from fun g2 => h3 ⟨g1, g2⟩]
      ·simp [g1]
     rw [h4, Bool.or_false])]
   exact ih')
  obtain ⟨K, hK⟩ := hstep
  refine ⟨K + 1, fun k hk => ?_⟩
  obtain ⟨k, rfl⟩ : ∃ m, k = m + 1 := ⟨k - 1, by omega⟩
  simp only [raster_Draw.l1]
  have hrr : rd_T56 R (R1.length : Int) = q := by rw [← h1]; exact rdr_mid _ _ _
  have hlen : R1.length + (q :: R2).length = R.length := by rw [← h1]; simp
  simp only [List.length_cons] at hlen
  have e1 : wrap64 (q.f0 - X) = q.f0 - X := w64 (by omega) (by omega)
  have e2 : wrap64 (q.f0 - X + S) = q.f0 - X + S := w64 (by omega) (by omega)
  have e3 : wrap64 (q.f0 - X + S - 1) = q.f0 - X + S - 1 := w64 (by omega) (by omega)
  have e4 : Int.tdiv (q.f0 - X + S - 1) S = (c : Int) := by rw [Int.tdiv_eq_ediv_of_nonneg (by omega)]; exact hcn
  have e5 : wrap64 (c : Int) = (c : Int) := w64 (by omega) (by omega)
  rw [if_pos (by omega), if_pos (by omega), if_pos (by omega), if_neg (by omega), hrr, e1, e2, e3, e4, e5]
  exact hK k (by omega)
theorem line_row (l : List S39) (X S y : Int) (W : Nat) (R : List S56) (hS : 1 ≤ S) (hS2 : S ≤ 1099511627776) (hW : W ≤ 4096) (hR : RunOK l y X (X + (W : Int) * S) R) : (List.range W).map (lineR l X S y R) = picRow l X S W y := by
 unfold picRow
 refine rm_congr W _ _ fun j hj => ?_
 unfold lineR
 by_cases h : inRun R (X + (j : Int) * S) = true
 ·rw [if_pos h]
 ·rw [if_neg h]
  unfold colr
  cases ho : ownr l (X + (j : Int) * S) y with
  | none => rfl
  | some n =>
   exfalso
   have h1 := js_le hS hS2 (a := j) (b := W) (by omega) hW
   have h2 : (j : Int) * S < (W : Int) * S := by
    have := Int.mul_le_mul_of_nonneg_right (show (j : Int) + 1 ≤ (W : Int) by omega) (show 0 ≤ S by omega)
    rw [Int.add_mul] at this
    omega
   obtain ⟨q, hq, h3, h4⟩ := hR.c2 (X + (j : Int) * S) (by omega) (by omega) n ho
   exact h (List.any_eq_true.2 ⟨q, hq, by simp [h3, h4]⟩)

set_option maxHeartbeats 2000000 in
theorem draw_l0 (l : List S39) (X Y S : Int) (W H : Nat) (hl : l.length ≤ 1000) (hG : okG X Y S (W : Int) (H : Int)) : ∀ (d n : Nat), n + d = H → Ev (fun k => raster_Draw.l0 k l (pic l X Y S W n) (H : Int) (n : Int) X Y S (W : Int) (H : Int)) (pic l X Y S W H, 0) := by
 obtain ⟨g1, g2, g3, g4, g5, g6, g7, g8, g9, g10, g11⟩ := hG
 intro d
 induction d with
 | zero =>
  intro n hn
  obtain rfl : n = H := by omega
  refine ⟨1, fun k hk => ?_⟩
  obtain ⟨k, rfl⟩ : ∃ m, k = m + 1 := ⟨k - 1, by omega⟩
  simp only [raster_Draw.l0]
  rw [if_neg (by omega)]
 | succ d ih =>
  intro n hn
  have hn' := js_le g6 g7 (a := n) (b := H) (by omega) (by omega)
  have hW' := js_le g6 g7 (a := 1) (b := W) (by omega) (by omega)
  obtain ⟨R, hRf, hR, hRl⟩ := runs_f l (Y + (n : Int) * S) X (X + (W : Int) * S) hl (by omega) (7 * l.length + 5) (by omega)
  have hEv := Ev.of (fun k => raster_Runs.mono l (Y + (n : Int) * S) X (X + (W : Int) * S) k) hRf
  have hrow := line_row l X S (Y + (n : Int) * S) W R g6 g7 (by omega) hR
  have hpl := pic_len l X Y S W n
  have hnW : n * W ≤ 4096 * 4096 := Nat.mul_le_mul (by omega) (by omega)
  have ih' := ih (n + 1) (by omega)
  rw [pic_succ, ← hrow] at ih'
  have e3 : wrap64 ((n : Int) + 1) = ((n + 1 : Nat) : Int) := by rw [w64 (by omega) (by omega)]; omega
  rw [← e3] at ih'
  obtain ⟨K1, hK1⟩ := draw_l1 l (pic l X Y S W n) X Y S (Y + (n : Int) * S) W (H : Int) (n : Int) R (H : Int) g6 g7 ⟨g8, g9⟩ (by omega) hR (by omega) (by omega) _ ih' R [] rfl
  obtain ⟨K2, hK2⟩ := hEv
  refine ⟨K1 + K2 + 1, fun k hk => ?_⟩
  obtain ⟨k, rfl⟩ : ∃ m, k = m + 1 := ⟨k - 1, by omega⟩
  have hRk : raster_Runs.f k l (Y + (n : Int) * S) X (X + (W : Int) * S) = some R := hK2 k (by omega)
  simp only [raster_Draw.l0]
  have e1 : wrap64 ((n : Int) * S) = (n : Int) * S := w64 (by omega) (by omega)
  have e2 : wrap64 (Y + (n : Int) * S) = Y + (n : Int) * S := w64 (by omega) (by omega)
  have e4 : wrap64 ((W : Int) * S) = (W : Int) * S := w64 (by omega) (by omega)
  have e5 : wrap64 (X + (W : Int) * S) = X + (W : Int) * S := w64 (by omega) (by omega)
  rw [if_pos (by omega), if_pos (by omega), if_pos (by omega), e1, e2, e4, e5, hRk]
  simp only [Option.bind_some]
  have hz : List.replicate ((W : Int)).toNat (0 : Int) = (List.range W).map (lineR l X S (Y + (n : Int) * S) []) := by
   rw [Int.toNat_natCast]
   apply List.ext_getElem (by simp)
   intro j h1 h2
   simp [lineR, inRun]
  rw [hz]
  exact hK1 k (by omega)
theorem draw_ok (l : List S39) (X Y S W H : Int) (hl : l.length ≤ 1000) (hG : okG X Y S W H) : Ev (fun k => raster_Draw.f k l X Y S W H) (pic l X Y S W.toNat H.toNat, 0) := by
 have hG' := hG
 obtain ⟨g1, g2, g3, g4, g5, g6, g7, g8, g9, g10, g11⟩ := hG'
 have eW : W = (W.toNat : Int) := by omega
 have eH : H = (H.toNat : Int) := by omega
 obtain ⟨K, hK⟩ := draw_l0 l X Y S W.toNat H.toNat hl (by rw [← eW, ← eH]; exact hG) H.toNat 0 (by omega)
 rw [← eW, ← eH] at hK
 refine ⟨K + 1, fun k hk => ?_⟩
 show raster_Draw.f k l X Y S W H = _
 unfold raster_Draw.f
 rw [right_eq X Y S W H k (by omega)]
 simp only [Option.bind_some]
 rw [if_pos (by simpa using hG)]
 exact hK k (by omega)
theorem draw_bad (l : List S39) (X Y S W H : Int) (hG : ¬ okG X Y S W H) (k : Nat) (hk : 0 < k) : raster_Draw.f k l X Y S W H = some ([], 1) := by
 unfold raster_Draw.f
 rw [right_eq X Y S W H k hk]
 simp only [Option.bind_some]
 rw [if_neg (by simpa using hG)]

theorem awake_ev : Ev (fun k => decoupagelaw28_awake.f k) true := by
 obtain ⟨K, hK⟩ := draw_ok [(⟨0, 0, (⟨0, 0, 1, 1⟩ : S37), (⟨0, 0, 0, 0⟩ : S37), (⟨0, 0, 1, 1⟩ : S37), 7⟩ : S39)] 0 0 1 2 1 (by simp) (by decide)
 refine ⟨K, fun k hk => ?_⟩
 show decoupagelaw28_awake.f k = _
 have h : raster_Draw.f k _ 0 0 1 2 1 = _ := hK k hk
 unfold decoupagelaw28_awake.f
 have e : pic [(⟨0, 0, (⟨0, 0, 1, 1⟩ : S37), (⟨0, 0, 0, 0⟩ : S37), (⟨0, 0, 1, 1⟩ : S37), 7⟩ : S39)] 0 0 1 (2 : Int).toNat (1 : Int).toNat = [7, 0] := by decide +kernel
 rw [h, e]
 rfl

theorem rright_eq (X Y S W H : Int) : decoupageref28_Right.f X Y S W H = some (decide (okG X Y S W H)) := by
 unfold decoupageref28_Right.f okG
 by_cases h1 : W < 1
 ·rw [if_pos h1]; simp [show ¬ 1 ≤ W by omega]
 rw [if_neg h1]
 by_cases h2 : H < 1
 ·rw [if_pos h2]; simp [show ¬ 1 ≤ H by omega]
 rw [if_neg h2]
 by_cases h3 : W > 4096
 ·rw [if_pos h3]; simp [show ¬ W ≤ 4096 by omega]
 rw [if_neg h3, if_neg (by omega)]
 have e1 : Int.tdiv 4096 W = 4096 / W := Int.tdiv_eq_ediv_of_nonneg (by omega)
 have e2 : H ≤ 4096 / W ↔ H * W ≤ 4096 := Int.le_ediv_iff_mul_le (by omega)
 have e3 : 4096 / W ≤ 4096 := Int.ediv_le_self _ (by omega)
 have e4 : 0 ≤ 4096 / W := Int.ediv_nonneg (by omega) (by omega)
 rw [e1, w64 (by omega) (by omega)]
 rw [Int.mul_comm] at e2
 by_cases h6 : H > 4096 / W
 ·rw [if_pos h6]; simp [show ¬ W * H ≤ 4096 by omega]
 rw [if_neg h6]
 have h7 : W * H ≤ 4096 := by omega
 by_cases g1 : S ≥ 1 <;> by_cases g2 : S ≤ 1099511627776 <;> by_cases g3 : -1099511627776 ≤ X <;> by_cases g4 : X ≤ 1099511627776 <;> by_cases g5 : -1099511627776 ≤ Y <;> by_cases g6 : Y ≤ 1099511627776 <;> simp [g1, g2, g3, g4, g5, g6, h7, show 1 ≤ W by omega, show 1 ≤ H by omega, show W ≤ 4096 by omega, show H ≤ 4096 by omega] <;> omega

/-! ### Items, moved -/
structure S44 where
 f0 : Int
 f1 : Int
 f2 : Int
 f3 : Int
 f4 : Int
def z44 : S44 := ⟨0, 0, 0, 0, 0⟩
def k44 : Kd S44 := Kd.iso (Kd.pair (Kd.int .i64) (Kd.pair (Kd.int .i64) (Kd.pair (Kd.int .i64) (Kd.pair (Kd.int .i64) (Kd.int .i64))))) (fun x : S44 => (x.f0, x.f1, x.f2, x.f3, x.f4))
theorem k44_open {w : World} {x : S44} {cs : List Value} (h : k44.K w x cs) : cs = [.int .i64 x.f0, .int .i64 x.f1, .int .i64 x.f2, .int .i64 x.f3, .int .i64 x.f4] := by
 obtain ⟨c0, r0, rfl, h0, g0⟩ := h
 have e0 : c0 = [.int .i64 x.f0] := h0
 subst e0
 obtain ⟨c1, r1, rfl, h1, g1⟩ := g0
 have e1 : c1 = [.int .i64 x.f1] := h1
 subst e1
 obtain ⟨c2, r2, rfl, h2, g2⟩ := g1
 have e2 : c2 = [.int .i64 x.f2] := h2
 subst e2
 obtain ⟨c3, r3, rfl, h3, g3⟩ := g2
 have e3 : c3 = [.int .i64 x.f3] := h3
 subst e3
 have e4 : r3 = [.int .i64 x.f4] := g3
 subst e4
 rfl
/-- Its numbers are whole numbers of their kinds. -/
def Q44 (x : S44) : Prop := I64 x.f0 ∧ I64 x.f1 ∧ I64 x.f2 ∧ I64 x.f3 ∧ I64 x.f4
def sh (r : S37) (dx dy : Int) : S37 := ⟨r.f0 + dx, r.f1 + dy, r.f2 + dx, r.f3 + dy⟩
def mv (dx dy : Int) (i : S39) : S39 := ⟨i.f0, i.f1, sh i.f2 dx dy, sh i.f3 dx dy, sh i.f4 dx dy, i.f5⟩
def nearR (r : S37) : Prop := -1099511627776 ≤ r.f0 ∧ r.f0 ≤ 1099511627776 ∧ -1099511627776 ≤ r.f2 ∧ r.f2 ≤ 1099511627776 ∧ -1099511627776 ≤ r.f1 ∧ r.f1 ≤ 1099511627776 ∧ -1099511627776 ≤ r.f3 ∧ r.f3 ≤ 1099511627776
instance (r : S37) : Decidable (nearR r) := by unfold nearR; exact inferInstance
theorem near_eq (r : S37) : decoupagelaw28_near.f r.f0 r.f1 r.f2 r.f3 = some (decide (nearR r)) := by
 unfold decoupagelaw28_near.f nearR
 by_cases h1 : r.f0 ≥ -1099511627776
 ·rw [if_pos h1]
  by_cases h2 : r.f0 ≤ 1099511627776
  ·rw [if_pos h2]
   by_cases h3 : r.f2 ≥ -1099511627776
   ·rw [if_pos h3]
    by_cases h4 : r.f2 ≤ 1099511627776
    ·rw [if_pos h4]
     by_cases h5 : r.f1 ≥ -1099511627776
     ·rw [if_pos h5]
      by_cases h6 : r.f1 ≤ 1099511627776
      ·rw [if_pos h6]
       by_cases h7 : r.f3 ≥ -1099511627776
       ·rw [if_pos h7]
        simp [show -1099511627776 ≤ r.f0 from h1, h2, show -1099511627776 ≤ r.f2 from h3, h4, show -1099511627776 ≤ r.f1 from h5, h6, show -1099511627776 ≤ r.f3 from h7]
       ·rw [if_neg h7]; simp [show ¬ -1099511627776 ≤ r.f3 from h7]
      ·rw [if_neg h6]; simp [h6]
     ·rw [if_neg h5]; simp [show ¬ -1099511627776 ≤ r.f1 from h5]
    ·rw [if_neg h4]; simp [h4]
   ·rw [if_neg h3]; simp [show ¬ -1099511627776 ≤ r.f2 from h3]
  ·rw [if_neg h2]; simp [h2]
 ·rw [if_neg h1]; simp [show ¬ -1099511627776 ≤ r.f0 from h1]
theorem shift_eq (r : S37) (dx dy : Int) (h : nearR r) (hx : -2147483648 ≤ dx ∧ dx ≤ 2147483647) (hy : -2147483648 ≤ dy ∧ dy ≤ 2147483647) : decoupagelaw28_shift.f r.f0 r.f1 r.f2 r.f3 dx dy = some ((sh r dx dy).f0, (sh r dx dy).f1, (sh r dx dy).f2, (sh r dx dy).f3) := by
 unfold decoupagelaw28_shift.f
 unfold nearR at h
 rw [w64 (n := dx) (by omega) (by omega), w64 (n := dy) (by omega) (by omega), w64 (by omega) (by omega), w64 (by omega) (by omega), w64 (by omega) (by omega), w64 (by omega) (by omega)]
 rfl
theorem shows_mv (i : S39) (dx dy x y : Int) : shows (mv dx dy i) (x + dx) (y + dy) ↔ shows i x y := by
 unfold shows has mv sh
 simp only
 constructor
 ·rintro ⟨h1, h2, h3⟩
  exact ⟨by omega, by omega, fun h4 h5 => h3 h4 (by omega)⟩
 ·rintro ⟨h1, h2, h3⟩
  exact ⟨by omega, by omega, fun h4 h5 => h3 h4 (by omega)⟩
theorem getD_mv (l : List S39) (dx dy : Int) (n : Nat) (hn : n < l.length) : (l.map (mv dx dy)).getD n z39 = mv dx dy (l.getD n z39) := by
 rw [List.getD_eq_getElem?_getD, List.getD_eq_getElem?_getD, List.getElem?_map, List.getElem?_eq_getElem hn]
 rfl
theorem ownr_mv (l : List S39) (dx dy x y : Int) : ownr (l.map (mv dx dy)) (x + dx) (y + dy) = ownr l x y := by
 unfold ownr
 rw [List.length_map]
 have : ∀ n, n ≤ l.length → ownAt (l.map (mv dx dy)) (x + dx) (y + dy) n = ownAt l x y n := by
  intro n
  induction n with
  | zero => intro _; rfl
  | succ n ih =>
   intro hn
   unfold ownAt
   rw [ih (by omega), getD_mv l dx dy n (by omega)]
   by_cases hs : shows (l.getD n z39) x y
   ·rw [if_pos hs, if_pos ((shows_mv _ dx dy x y).2 hs)]
   ·rw [if_neg hs, if_neg (fun h => hs ((shows_mv _ dx dy x y).1 h))]
 exact this l.length (Nat.le_refl _)
theorem colr_mv (l : List S39) (dx dy x y : Int) : colr (l.map (mv dx dy)) (x + dx) (y + dy) = colr l x y := by
 unfold colr
 rw [ownr_mv]
 cases h : ownr l x y with
 | none => rfl
 | some m =>
  simp only
  rw [getD_mv l dx dy m (ownr_lt h)]
  rfl
theorem pic_mv (l : List S39) (dx dy X Y S : Int) (W n : Nat) : pic (l.map (mv dx dy)) (X + dx) (Y + dy) S W n = pic l X Y S W n := by
 induction n with
 | zero => rfl
 | succ n ih =>
  rw [pic_succ, pic_succ, ih]
  congr 1
  unfold picRow
  refine rm_congr W _ _ fun j _ => ?_
  rw [show X + dx + (j : Int) * S = (X + (j : Int) * S) + dx by omega, show Y + dy + (n : Int) * S = (Y + (n : Int) * S) + dy by omega]
  exact colr_mv l dx dy _ _
theorem same_l1 (L : List Int) (hL : L.length ≤ 100000000) : ∀ (L2 L1 : List Int) (k : Nat), L1 ++ L2 = L → L2.length < k → decoupagelaw28_RasterShifts.l1 k L L (L.length : Int) (L1.length : Int) = some true := by
 intro L2
 induction L2 with
 | nil =>
  intro L1 k h1 hk
  obtain ⟨k, rfl⟩ : ∃ m, k = m + 1 := ⟨k - 1, by omega⟩
  obtain rfl : L1 = L := by simpa using h1
  simp only [decoupagelaw28_RasterShifts.l1]
  rw [if_neg (by omega)]
 | cons n L2 ih =>
  intro L1 k h1 hk
  obtain ⟨k, rfl⟩ : ∃ m, k = m + 1 := ⟨k - 1, by omega⟩
  have hlen : L1.length + (n :: L2).length = L.length := by rw [← h1]; simp
  simp only [List.length_cons] at hlen hk
  have hw : wrap64 ((L1.length : Int) + 1) = ((L1 ++ [n]).length : Int) := by rw [w64 (by omega) (by omega)]; simp
  simp only [decoupagelaw28_RasterShifts.l1]
  rw [if_pos (by omega), if_pos (by omega), if_pos (by omega), if_pos (by omega)]
  simp only [if_true]
  rw [hw]
  exact ih (L1 ++ [n]) k (by rw [← h1]; simp) (by omega)
theorem shift_loop (L : List S39) (hL : L.length ≤ 20) (X Y S W H dx dy : Int) (hx : -2147483648 ≤ dx ∧ dx ≤ 2147483647) (hy : -2147483648 ≤ dy ∧ dy ≤ 2147483647) (K0 : Nat)
  (hend : ∀ k, K0 ≤ k → decoupagelaw28_RasterShifts.l0 k L dx dy (L.map (mv dx dy)) (L.length : Int) (L.length : Int) X Y S W H = some true) :
  ∀ (L2 L1 : List S39) (k : Nat), L1 ++ L2 = L → K0 + 2 * L2.length ≤ k → decoupagelaw28_RasterShifts.l0 k L dx dy (L1.map (mv dx dy)) (L.length : Int) (L1.length : Int) X Y S W H = some true := by
 intro L2
 induction L2 with
 | nil =>
  intro L1 k h1 hk
  obtain rfl : L1 = L := by simpa using h1
  exact hend k (by simpa using hk)
 | cons i L2 ih =>
  intro L1 k h1 hk
  simp only [List.length_cons] at hk
  obtain ⟨k, rfl⟩ : ∃ m, k = m + 2 := ⟨k - 2, by omega⟩
  have hlen : L1.length + (i :: L2).length = L.length := by rw [← h1]; simp
  simp only [List.length_cons] at hlen
  have hr : rd_T39 L (L1.length : Int) = i := by rw [← h1]; exact rdi_mid _ _ _
  have hw : wrap64 ((L1.length : Int) + 1) = ((L1 ++ [i]).length : Int) := by rw [w64 (by omega) (by omega)]; simp
  have hj : ∀ b : Bool, (b = false → nearR i.f2 ∧ nearR i.f3 ∧ nearR i.f4) → decoupagelaw28_RasterShifts.j2 (k + 1) L dx dy (L1.map (mv dx dy)) (L.length : Int) (L1.length : Int) b X Y S W H i.f0 i.f1 i.f2.f0 i.f2.f1 i.f2.f2 i.f2.f3 i.f3.f0 i.f3.f1 i.f3.f2 i.f3.f3 i.f4.f0 i.f4.f1 i.f4.f2 i.f4.f3 i.f5 = some true := by
   intro b hb
   have ih' := ih (L1 ++ [i]) k (by rw [← h1]; simp) (by omega)
   simp only [decoupagelaw28_RasterShifts.j2]
   cases b with
   | true => rfl
   | false =>
    obtain ⟨n1, n2, n3⟩ := hb rfl
    rw [if_neg (by decide), shift_eq _ _ _ n1 hx hy, shift_eq _ _ _ n2 hx hy, shift_eq _ _ _ n3 hx hy]
    simp only [Option.bind_some]
    have hq : (L1.map (mv dx dy)).length < 1172812402961 := by rw [List.length_map]; omega
    rw [if_pos hq, hw]
    rw [List.map_append] at ih'
    exact ih'
  generalize hk1 : k + 1 = m at hj
  rw [show k + 2 = m + 1 by omega]
  simp only [decoupagelaw28_RasterShifts.l0]
  rw [if_pos (by omega), if_pos (by omega), if_pos (by omega), hr, near_eq, near_eq, near_eq]
  simp only [Option.bind_some]
  by_cases g1 : nearR i.f2
  ·rw [if_pos (by simpa using g1)]
   by_cases g2 : nearR i.f3
   ·rw [if_pos (by simpa using g2)]
    refine hj _ fun h => ⟨g1, g2, ?_⟩
    simpa using h
   ·rw [if_neg (by simpa using g2)]
    exact hj true (by simp)
  ·rw [if_neg (by simpa using g1)]
   exact hj true (by simp)
theorem RasterShifts : ∀ (l0 : List S39) (a1 : S44) (a2 : Int) (a3 : Int), (∀ x ∈ l0, Q39 x) → Q44 a1 → (Lit.int .i32 a2).wf = true → (Lit.int .i32 a3).wf = true → ∃ k, decoupagelaw28_RasterShifts.f k l0 a1.f0 a1.f1 a1.f2 a1.f3 a1.f4 a2 a3 = some true := by
 intro l g dx dy _ _ hdx hdy
 obtain ⟨X, Y, S, W, H⟩ := g
 have hx : -2147483648 ≤ dx ∧ dx ≤ 2147483647 := by have h := hdx; simp only [Lit.wf, Bool.and_eq_true, decide_eq_true_eq] at h; exact h
 have hy : -2147483648 ≤ dy ∧ dy ≤ 2147483647 := by have h := hdy; simp only [Lit.wf, Bool.and_eq_true, decide_eq_true_eq] at h; exact h
 simp only
 obtain ⟨K, hK⟩ := awake_ev
 have ha : ∀ k, K ≤ k → decoupagelaw28_awake.f k = some true := hK
 have hj : ∀ k, K + 1 ≤ k → decoupagelaw28_RasterShifts.j0 k l dx dy true X Y S W H = some true := by
  intro k hk
  obtain ⟨k, rfl⟩ : ∃ m, k = m + 1 := ⟨k - 1, by omega⟩
  simp only [decoupagelaw28_RasterShifts.j0, if_true]
  rw [ha k (by omega)]
  rfl
 by_cases hl : (l.length : Int) > 20
 ·refine ⟨K + 10, ?_⟩
  unfold decoupagelaw28_RasterShifts.f
  rw [ha _ (by omega)]
  simp only [Option.bind_some, if_true]
  rw [if_pos hl]
  exact hj _ (by omega)
 by_cases hG : okG X Y S W H
 ·obtain ⟨K1, hK1⟩ := draw_ok l X Y S W H (by omega) hG
  have hG' := hG
  obtain ⟨g1, g2, g3, g4, g5, g6, g7, g8, g9, g10, g11⟩ := hG'
  have hpl := pic_len l X Y S W.toNat H.toNat
  have hnW : H.toNat * W.toNat ≤ 4096 * 4096 := Nat.mul_le_mul (by omega) (by omega)
  have eX : wrap64 (X + wrap64 dx) = X + dx := by rw [w64 (n := dx) (by omega) (by omega), w64 (by omega) (by omega)]
  have eY : wrap64 (Y + wrap64 dy) = Y + dy := by rw [w64 (n := dy) (by omega) (by omega), w64 (by omega) (by omega)]
  have hend : ∃ K0, ∀ k, K0 ≤ k → decoupagelaw28_RasterShifts.l0 k l dx dy (l.map (mv dx dy)) (l.length : Int) (l.length : Int) X Y S W H = some true := by
   by_cases hG2 : okG (X + dx) (Y + dy) S W H
   ·obtain ⟨K2, hK2⟩ := draw_ok (l.map (mv dx dy)) (X + dx) (Y + dy) S W H (by rw [List.length_map]; omega) hG2
    refine ⟨K1 + K2 + H.toNat * W.toNat + 5, fun k hk => ?_⟩
    obtain ⟨k, rfl⟩ : ∃ m, k = m + 1 := ⟨k - 1, by omega⟩
    have h1 : raster_Draw.f k l X Y S W H = some (pic l X Y S W.toNat H.toNat, 0) := hK1 k (by omega)
    have h2 : raster_Draw.f k (l.map (mv dx dy)) (X + dx) (Y + dy) S W H = some (pic (l.map (mv dx dy)) (X + dx) (Y + dy) S W.toNat H.toNat, 0) := hK2 k (by omega)
    rw [pic_mv] at h2
    simp only [decoupagelaw28_RasterShifts.l0]
    rw [if_neg (by omega), h1, eX, eY, h2]
    simp only [Option.bind_some, if_true]
    obtain ⟨k, rfl⟩ : ∃ m, k = m + 1 := ⟨k - 1, by omega⟩
    simp only [decoupagelaw28_RasterShifts.j3, bne_self_eq_false]
    rw [if_neg (by decide)]
    exact same_l1 (pic l X Y S W.toNat H.toNat) (by omega) (pic l X Y S W.toNat H.toNat) [] k (List.nil_append _) (by omega)
   ·refine ⟨K1 + 5, fun k hk => ?_⟩
    obtain ⟨k, rfl⟩ : ∃ m, k = m + 1 := ⟨k - 1, by omega⟩
    have h1 : raster_Draw.f k l X Y S W H = some (pic l X Y S W.toNat H.toNat, 0) := hK1 k (by omega)
    simp only [decoupagelaw28_RasterShifts.l0]
    rw [if_neg (by omega), h1, eX, eY, draw_bad _ _ _ _ _ _ hG2 k (by omega), rright_eq]
    simp only [Option.bind_some]
    rw [if_neg (by decide), if_pos trivial, show decide (okG (X + dx) (Y + dy) S W H) = false from decide_eq_false hG2]
    rfl
  obtain ⟨K0, hend⟩ := hend
  refine ⟨K + K0 + 2 * l.length + 10, ?_⟩
  unfold decoupagelaw28_RasterShifts.f
  rw [ha _ (by omega)]
  simp only [Option.bind_some, if_true]
  rw [if_neg hl, rright_eq]
  simp only [Option.bind_some]
  rw [if_pos (by simpa using hG)]
  by_cases h400 : wrap64 (W * H) > 400
  ·rw [show decide (wrap64 (W * H) > 400) = true from decide_eq_true h400]
   exact hj _ (by omega)
  ·rw [show decide (wrap64 (W * H) > 400) = false from decide_eq_false h400]
   obtain ⟨k, hk⟩ : ∃ k, K + K0 + 2 * l.length + 10 = k + 1 := ⟨K + K0 + 2 * l.length + 9, by omega⟩
   rw [hk]
   simp only [decoupagelaw28_RasterShifts.j0]
   rw [if_neg (by decide)]
   exact shift_loop l (by omega) X Y S W H dx dy hx hy K0 hend l [] k rfl (by omega)
 ·refine ⟨K + 10, ?_⟩
  unfold decoupagelaw28_RasterShifts.f
  rw [ha _ (by omega)]
  simp only [Option.bind_some, if_true]
  rw [if_neg hl, rright_eq]
  simp only [Option.bind_some]
  rw [if_neg (by simpa using hG)]
  exact hj _ (by omega)

end Go.Proofs.Ytppklhfiajjhmaa.Pure
