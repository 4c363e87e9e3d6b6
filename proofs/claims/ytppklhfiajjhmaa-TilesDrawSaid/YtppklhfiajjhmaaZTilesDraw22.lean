/- What is proved: texts of the law TilesDraw, joined by program. Conditions: none but those in each statement. -/
import Derived.Test.YtppklhfiajjhmaaZTilesDraw18
import Derived.Test.YtppklhfiajjhmaaZTilesDraw21
import Derived.Test.YtppklhfiajjhmaaZTilesDraw19
section
namespace Go.Proofs.Ytppklhfiajjhmaa.Ti
open Go Go.RowKit Go.Proofs.Ytppklhfiajjhmaa.Y Go.Proofs.Ytppklhfiajjhmaa.AskWords Go.Proofs.Ytppklhfiajjhmaa.Reads
set_option linter.unusedVariables false
set_option linter.unusedSimpArgs false
structure In1 where
 A : Option Addr
 c : Nat
 it : List (List Int)
def In1.ok (w : World) (e : In1) : Prop := e.it.length ≤ e.c ∧ InAt w e.A (rowsV (i64s 15) e.it)
def In1.v (e : In1) : Value := .slice e.A e.it.length e.c
def In1.b (e : In1) : InB := ⟨e.A, ⟨.rrecs (i64s 15) e.it, 39⟩, rowsV (i64s 15) e.it⟩
theorem in1 {w : World} {A : Option Addr} {c : Nat} {ys : List (List Value)} (hc : ys.length ≤ c) (h : Go.Proofs.Ytppklhfiajjhmaa.Reads.Rows w A 15 (List.replicate 15 isI64) ys) : ∃ e : In1, e.ok w ∧ e.v = .slice A ys.length c ∧ e.it.length = ys.length := by
 obtain ⟨it, h1, h2, _⟩ := rows_in h (by omega)
 exact ⟨⟨A, c, it⟩, ⟨by rw [h1]; exact hc, h2⟩, by unfold In1.v; rw [h1], h1⟩
theorem in1s {w : World} : ∀ xs : List Value, (∀ x ∈ xs, ∃ (A' : Option Addr) (c' : Nat) (ys : List (List Value)), x = .slice A' ys.length c' ∧ ys.length ≤ c' ∧ Go.Proofs.Ytppklhfiajjhmaa.Reads.Rows w A' 15 (List.replicate 15 isI64) ys) →
  ∃ es : List In1, xs = es.map In1.v ∧ ∀ e ∈ es, e.ok w
 | [], _ => ⟨[], rfl, by simp⟩
 | x :: xs, h => by
  obtain ⟨A, c, ys, rfl, h2, h3⟩ := h x (by simp)
  obtain ⟨e, e1, e2, _⟩ := in1 h2 h3
  obtain ⟨es, f1, f2⟩ := in1s xs (fun x hx => h x (by simp [hx]))
  refine ⟨e :: es, by rw [List.map_cons, e2, f1], fun x hx => ?_⟩
  rcases List.mem_cons.1 hx with rfl | hx
  ·exact e1
  ·exact f2 x hx
def outB (A : Option Addr) (es : List In1) : InB := ⟨A, ⟨.rlst (es.zipIdx.map fun p => .va (p.2 + 1) 0 p.1.it.length 15), 22⟩, es.map In1.v⟩
def inL (A : Option Addr) (es : List In1) : List InB := outB A es :: es.map In1.b
theorem RVs_of {σ : Sg} : ∀ {l : List MV} {us : List Value}, l.length = us.length → (∀ (i : Nat) x u, l[i]? = some x → us[i]? = some u → RV σ x u) → RVs σ l us
 | [], [], _, _ => by simp [RVs]
 | [], _ :: _, h, _ => by simp at h
 | _ :: _, [], h, _ => by simp at h
 | x :: l, u :: us, h, k => by
  simp only [RVs]
  exact ⟨u, us, rfl, k 0 x u rfl rfl, RVs_of (by simpa using h) (fun i x u h1 h2 => k (i + 1) x u (by simpa using h1) (by simpa using h2))⟩
theorem inL_rm {w : World} {A : Option Addr} {es : List In1} (hin : InAt w A (es.map In1.v)) (he : ∀ e ∈ es, e.ok w) (x : Nat → Value) :
  RM ⟨w.heap.size, fun _ => False⟩ w (sgOf w x (inL A es)) ((inL A es).map fun e => some e.k) w := by
 refine rm_ins x _ (fun i e hi => ?_)
 cases i with
 | zero =>
  simp only [inL, List.getElem?_cons_zero, Option.some.injEq] at hi
  subst hi
  refine ⟨rfl, hin, RVs_of (by simp [outB, Blk.cells]) (fun j x u h1 h2 => ?_)⟩
  have h1' : (es.zipIdx.map fun p => MV.va (p.2 + 1) 0 p.1.it.length 15)[j]? = some x := h1
  have h2' : (es.map In1.v)[j]? = some u := h2
  rw [List.getElem?_map, List.getElem?_zipIdx] at h1'
  rw [List.getElem?_map] at h2'
  cases hj : es[j]? with
  | none => rw [hj] at h2'; simp at h2'
  | some e =>
   rw [hj] at h1' h2'
   simp only [Option.map_some, Option.some.injEq, Nat.zero_add] at h1' h2'
   subst h1'; subst h2'
   obtain ⟨k1, k2⟩ := he e (List.mem_of_getElem? hj)
   refine va_in (e := e.b) (by simp [inL, hj]) k2 k1 (fun hp hc => ?_)
   have := rowsV_len (i64s 15) e.it
   have hc' : rowsV (i64s 15) e.it = [] := hc
   rw [hc'] at this
   simp [i64s] at this
   omega
 | succ i =>
  simp only [inL, List.getElem?_cons_succ, List.getElem?_map] at hi
  obtain ⟨e1, h1, rfl⟩ := Option.map_eq_some_iff.1 hi
  obtain ⟨k1, k2⟩ := he e1 (List.mem_of_getElem? h1)
  exact ⟨rfl, k2, rows_RVs _ _ _⟩
theorem sl_in {w : World} {x : Nat → Value} {A : Option Addr} {es : List In1} {c : Nat} (hin : InAt w A (es.map In1.v)) (hne : es ≠ []) : RV (sgOf w x (inL A es)) (.sl 0 0 es.length c) (.slice A es.length c) := by
 obtain ⟨g, off, pre, rest, ty, fr, h1, h2, h3⟩ := hin.blk (by simpa using hne)
 subst h1
 simp only [RV]
 refine ⟨g, ?_, ?_⟩
 ·show fOf (some (outB (some ⟨g, off, none⟩) es)) = some g
  unfold fOf outB
  simp only
  rw [if_neg (by simpa using hne)]
  rfl
 ·rfl
theorem any_of {n f : Nat} {args : List MV} {us : List Value} {w : World} {σ : Sg} {m : Mem} (hx : xfun Try.prog E F9 n f args m fin = some (.val (.bool true), [])) (hu : RVs σ args us) (hM : RM ⟨w.heap.size, fun _ => False⟩ w σ m w) :
  Calls Try.prog f us.toArray w (IsTrue w) := by
 refine Calls.mono (xfun_ok E_ok F9_ok mixed hx trivial hu hM) ?_
 rintro e w' ⟨v, m', σ', u, h1, rfl, h3, h4, h5⟩
 simp only [Option.some.injEq, Prod.mk.injEq, and_true] at h1
 subst h1
 simp only [RV] at h4
 subst h4
 exact ⟨rfl, h5.bel.to⟩
section
variable {X Y S : Int} {W H : Nat} (hG : Pure.okG X Y S (W : Int) (H : Int))
include hG
theorem grid_HW : H * W ≤ 4096 ∧ ((H * W : Nat) : Int) = (W : Int) * H := by
 obtain ⟨g1, g2, g3, g4, g5, _⟩ := hG
 have e : (W : Int) * (H : Int) = ((H * W : Nat) : Int) := by rw [Int.mul_comm]; push_cast; rfl
 exact ⟨by omega, e.symm⟩
theorem showOk_pic (old new : List (List Int)) (ho : old.length ≤ 5) (hn : new.length ≤ 5) : showOk X Y S W H old.length new.length (picL [] X Y S W H).length (picL old X Y S W H) old new = true := by
 have e := (grid_HW hG).2
 unfold showOk
 exact decide_eq_true ⟨hG, by rw [picL_len, e, Int.mul_comm], by rw [picL_len, picL_len], rfl, rfl, by omega⟩
theorem big_ok (l : List (List Int)) : decide ((picL l X Y S W H).length = (picL [] X Y S W H).length ∧ (picL l X Y S W H).length ≤ 1000000) = true := by
 have := (grid_HW hG).1
 exact decide_eq_true ⟨by rw [picL_len, picL_len], by rw [picL_len]; omega⟩
theorem big2_ok (l : List (List Int)) : decide ((picL l X Y S W H).length ≤ 1000000 ∧ (picL l X Y S W H).length ≤ 1000000) = true := by
 have := (grid_HW hG).1
 exact decide_eq_true ⟨by rw [picL_len]; omega, by rw [picL_len]; omega⟩
theorem few_ok (l : List (List Int)) (h : l.length ≤ 5) : decide (l.length ≤ 1000 ∧ Pure.okG X Y S W H) = true := decide_eq_true ⟨by omega, hG⟩
end
theorem same_self (l : List (List Int)) : sameB l l = true := decide_eq_true rfl
theorem pic_nil (X Y S : Int) (W H : Nat) : List.map (fun v => [v]) (Pure.pic [] X Y S W H) = picL [] X Y S W H := rfl
theorem pic_nil_len (X Y S : Int) (W H : Nat) : (Pure.pic [] X Y S W H).length = (picL [] X Y S W H).length := by unfold picL; rw [List.length_map]; rfl
theorem beq_len (n : Nat) : (n == n) = true := by simp
theorem draw0 (X Y S W H : Int) : xfun Try.prog E F9 8 10 [.agg [iv X, iv Y, iv S, iv W, iv H], .es] [] fin = some (.val (.bool true), []) := by
 rw [drawNf0]
 cases hg : decide (Pure.okG X Y S W H) with
 | false => rfl
 | true =>
 have hG := of_decide_eq_true hg
 obtain ⟨Wn, rfl⟩ : ∃ n : Nat, W = n := ⟨W.toNat, by obtain ⟨g, _⟩ := hG; omega⟩
 obtain ⟨Hn, rfl⟩ : ∃ n : Nat, H = n := ⟨H.toNat, by obtain ⟨_, g, _⟩ := hG; omega⟩
 simp only [cond_true, cond_false, Bool.not_true, Int.toNat_natCast]
 cases hc : decide (IntKind.wrap IntKind.i64 ((Wn : Int) * Hn) > 200) with
 | true => rfl
 | false =>
 have f := few_ok hG [] (by simp)
 have hb := (grid_HW hG).1
 have hb2 : (picL [] X Y S Wn Hn).length ≤ 1000000 := by rw [picL_len]; omega
 simp only [pic_nil, pic_nil_len, cond_false, cond_true, f, beq_len, same_self, hb2, and_self, decide_true]
theorem draw1 (X Y S W H : Int) (c : Nat) (e1 : In1) : xfun Try.prog E F9 8 10 [.agg [iv X, iv Y, iv S, iv W, iv H], .sl 0 0 1 c] [some ⟨.rlst [.va 1 0 e1.it.length 15], 22⟩, some ⟨.rrecs (i64s 15) e1.it, 39⟩] fin = some (.val (.bool true), []) := by
 rw [drawNf1]
 cases hn0 : decide ((e1.it.length : Int) > 5) with
 | true => rfl
 | false =>
 have hn0' := of_decide_eq_false hn0
 cases hg : decide (Pure.okG X Y S W H) with
 | false => rfl
 | true =>
 have hG := of_decide_eq_true hg
 obtain ⟨Wn, rfl⟩ : ∃ n : Nat, W = n := ⟨W.toNat, by obtain ⟨g, _⟩ := hG; omega⟩
 obtain ⟨Hn, rfl⟩ : ∃ n : Nat, H = n := ⟨H.toNat, by obtain ⟨_, g, _⟩ := hG; omega⟩
 simp only [cond_true, cond_false, Bool.not_true, Int.toNat_natCast]
 cases hc : decide (IntKind.wrap IntKind.i64 ((Wn : Int) * Hn) > 200) with
 | true => rfl
 | false =>
 have s0 := showOk_pic hG [] e1.it (by simp) (by omega)
 have f := few_ok hG e1.it (by omega)
 simp only [List.length_nil] at s0
 simp only [pic_nil, pic_nil_len, show_pic hG, cond_false, cond_true, s0, big_ok hG, big2_ok hG, f, beq_len, same_self]
theorem draw2 (X Y S W H : Int) (c : Nat) (e1 e2 : In1) : xfun Try.prog E F9 8 10 [.agg [iv X, iv Y, iv S, iv W, iv H], .sl 0 0 2 c] [some ⟨.rlst [.va 1 0 e1.it.length 15, .va 2 0 e2.it.length 15], 22⟩, some ⟨.rrecs (i64s 15) e1.it, 39⟩, some ⟨.rrecs (i64s 15) e2.it, 39⟩] fin = some (.val (.bool true), []) := by
 rw [drawNf2]
 cases hn0 : decide ((e1.it.length : Int) > 5) with
 | true => rfl
 | false =>
 have hn0' := of_decide_eq_false hn0
 cases hn1 : decide ((e2.it.length : Int) > 5) with
 | true => rfl
 | false =>
 have hn1' := of_decide_eq_false hn1
 cases hg : decide (Pure.okG X Y S W H) with
 | false => rfl
 | true =>
 have hG := of_decide_eq_true hg
 obtain ⟨Wn, rfl⟩ : ∃ n : Nat, W = n := ⟨W.toNat, by obtain ⟨g, _⟩ := hG; omega⟩
 obtain ⟨Hn, rfl⟩ : ∃ n : Nat, H = n := ⟨H.toNat, by obtain ⟨_, g, _⟩ := hG; omega⟩
 simp only [cond_true, cond_false, Bool.not_true, Int.toNat_natCast]
 cases hc : decide (IntKind.wrap IntKind.i64 ((Wn : Int) * Hn) > 200) with
 | true => rfl
 | false =>
 have s0 := showOk_pic hG [] e1.it (by simp) (by omega)
 have s1 := showOk_pic hG e1.it e2.it (by omega) (by omega)
 have f := few_ok hG e2.it (by omega)
 simp only [List.length_nil] at s0
 simp only [pic_nil, pic_nil_len, show_pic hG, cond_false, cond_true, s0, s1, big_ok hG, big2_ok hG, f, beq_len, same_self]
theorem draw3 (X Y S W H : Int) (c : Nat) (e1 e2 e3 : In1) : xfun Try.prog E F9 8 10 [.agg [iv X, iv Y, iv S, iv W, iv H], .sl 0 0 3 c] [some ⟨.rlst [.va 1 0 e1.it.length 15, .va 2 0 e2.it.length 15, .va 3 0 e3.it.length 15], 22⟩, some ⟨.rrecs (i64s 15) e1.it, 39⟩, some ⟨.rrecs (i64s 15) e2.it, 39⟩, some ⟨.rrecs (i64s 15) e3.it, 39⟩] fin = some (.val (.bool true), []) := by
 rw [drawNf3]
 cases hn0 : decide ((e1.it.length : Int) > 5) with
 | true => rfl
 | false =>
 have hn0' := of_decide_eq_false hn0
 cases hn1 : decide ((e2.it.length : Int) > 5) with
 | true => rfl
 | false =>
 have hn1' := of_decide_eq_false hn1
 cases hn2 : decide ((e3.it.length : Int) > 5) with
 | true => rfl
 | false =>
 have hn2' := of_decide_eq_false hn2
 cases hg : decide (Pure.okG X Y S W H) with
 | false => rfl
 | true =>
 have hG := of_decide_eq_true hg
 obtain ⟨Wn, rfl⟩ : ∃ n : Nat, W = n := ⟨W.toNat, by obtain ⟨g, _⟩ := hG; omega⟩
 obtain ⟨Hn, rfl⟩ : ∃ n : Nat, H = n := ⟨H.toNat, by obtain ⟨_, g, _⟩ := hG; omega⟩
 simp only [cond_true, cond_false, Bool.not_true, Int.toNat_natCast]
 cases hc : decide (IntKind.wrap IntKind.i64 ((Wn : Int) * Hn) > 200) with
 | true => rfl
 | false =>
 have s0 := showOk_pic hG [] e1.it (by simp) (by omega)
 have s1 := showOk_pic hG e1.it e2.it (by omega) (by omega)
 have s2 := showOk_pic hG e2.it e3.it (by omega) (by omega)
 have f := few_ok hG e3.it (by omega)
 simp only [List.length_nil] at s0
 simp only [pic_nil, pic_nil_len, show_pic hG, cond_false, cond_true, s0, s1, s2, big_ok hG, big2_ok hG, f, beq_len, same_self]
theorem draw4 (X Y S W H : Int) (c : Nat) (e1 e2 e3 e4 : In1) : xfun Try.prog E F9 8 10 [.agg [iv X, iv Y, iv S, iv W, iv H], .sl 0 0 4 c] [some ⟨.rlst [.va 1 0 e1.it.length 15, .va 2 0 e2.it.length 15, .va 3 0 e3.it.length 15, .va 4 0 e4.it.length 15], 22⟩, some ⟨.rrecs (i64s 15) e1.it, 39⟩, some ⟨.rrecs (i64s 15) e2.it, 39⟩, some ⟨.rrecs (i64s 15) e3.it, 39⟩, some ⟨.rrecs (i64s 15) e4.it, 39⟩] fin = some (.val (.bool true), []) := by
 rw [drawNf4]
 cases hn0 : decide ((e1.it.length : Int) > 5) with
 | true => rfl
 | false =>
 have hn0' := of_decide_eq_false hn0
 cases hn1 : decide ((e2.it.length : Int) > 5) with
 | true => rfl
 | false =>
 have hn1' := of_decide_eq_false hn1
 cases hn2 : decide ((e3.it.length : Int) > 5) with
 | true => rfl
 | false =>
 have hn2' := of_decide_eq_false hn2
 cases hn3 : decide ((e4.it.length : Int) > 5) with
 | true => rfl
 | false =>
 have hn3' := of_decide_eq_false hn3
 cases hg : decide (Pure.okG X Y S W H) with
 | false => rfl
 | true =>
 have hG := of_decide_eq_true hg
 obtain ⟨Wn, rfl⟩ : ∃ n : Nat, W = n := ⟨W.toNat, by obtain ⟨g, _⟩ := hG; omega⟩
 obtain ⟨Hn, rfl⟩ : ∃ n : Nat, H = n := ⟨H.toNat, by obtain ⟨_, g, _⟩ := hG; omega⟩
 simp only [cond_true, cond_false, Bool.not_true, Int.toNat_natCast]
 cases hc : decide (IntKind.wrap IntKind.i64 ((Wn : Int) * Hn) > 200) with
 | true => rfl
 | false =>
 have s0 := showOk_pic hG [] e1.it (by simp) (by omega)
 have s1 := showOk_pic hG e1.it e2.it (by omega) (by omega)
 have s2 := showOk_pic hG e2.it e3.it (by omega) (by omega)
 have s3 := showOk_pic hG e3.it e4.it (by omega) (by omega)
 have f := few_ok hG e4.it (by omega)
 simp only [List.length_nil] at s0
 simp only [pic_nil, pic_nil_len, show_pic hG, cond_false, cond_true, s0, s1, s2, s3, big_ok hG, big2_ok hG, f, beq_len, same_self]
theorem draw5 (X Y S W H : Int) (c : Nat) (e1 e2 e3 e4 e5 : In1) : xfun Try.prog E F9 8 10 [.agg [iv X, iv Y, iv S, iv W, iv H], .sl 0 0 5 c] [some ⟨.rlst [.va 1 0 e1.it.length 15, .va 2 0 e2.it.length 15, .va 3 0 e3.it.length 15, .va 4 0 e4.it.length 15, .va 5 0 e5.it.length 15], 22⟩, some ⟨.rrecs (i64s 15) e1.it, 39⟩, some ⟨.rrecs (i64s 15) e2.it, 39⟩, some ⟨.rrecs (i64s 15) e3.it, 39⟩, some ⟨.rrecs (i64s 15) e4.it, 39⟩, some ⟨.rrecs (i64s 15) e5.it, 39⟩] fin = some (.val (.bool true), []) := by
 rw [drawNf5]
 cases hn0 : decide ((e1.it.length : Int) > 5) with
 | true => rfl
 | false =>
 have hn0' := of_decide_eq_false hn0
 cases hn1 : decide ((e2.it.length : Int) > 5) with
 | true => rfl
 | false =>
 have hn1' := of_decide_eq_false hn1
 cases hn2 : decide ((e3.it.length : Int) > 5) with
 | true => rfl
 | false =>
 have hn2' := of_decide_eq_false hn2
 cases hn3 : decide ((e4.it.length : Int) > 5) with
 | true => rfl
 | false =>
 have hn3' := of_decide_eq_false hn3
 cases hn4 : decide ((e5.it.length : Int) > 5) with
 | true => rfl
 | false =>
 have hn4' := of_decide_eq_false hn4
 cases hg : decide (Pure.okG X Y S W H) with
 | false => rfl
 | true =>
 have hG := of_decide_eq_true hg
 obtain ⟨Wn, rfl⟩ : ∃ n : Nat, W = n := ⟨W.toNat, by obtain ⟨g, _⟩ := hG; omega⟩
 obtain ⟨Hn, rfl⟩ : ∃ n : Nat, H = n := ⟨H.toNat, by obtain ⟨_, g, _⟩ := hG; omega⟩
 simp only [cond_true, cond_false, Bool.not_true, Int.toNat_natCast]
 cases hc : decide (IntKind.wrap IntKind.i64 ((Wn : Int) * Hn) > 200) with
 | true => rfl
 | false =>
 have s0 := showOk_pic hG [] e1.it (by simp) (by omega)
 have s1 := showOk_pic hG e1.it e2.it (by omega) (by omega)
 have s2 := showOk_pic hG e2.it e3.it (by omega) (by omega)
 have s3 := showOk_pic hG e3.it e4.it (by omega) (by omega)
 have s4 := showOk_pic hG e4.it e5.it (by omega) (by omega)
 have f := few_ok hG e5.it (by omega)
 simp only [List.length_nil] at s0
 simp only [pic_nil, pic_nil_len, show_pic hG, cond_false, cond_true, s0, s1, s2, s3, s4, big_ok hG, big2_ok hG, f, beq_len, same_self]
theorem draw_many (X Y S W H : Int) (n : Nat) (hn : 5 < n) : xfun Try.prog E F9 8 10 [.agg [iv X, iv Y, iv S, iv W, iv H], .xs 0 n] [] fin = some (.val (.bool true), []) := by
 rw [drawNfM]
 have h : decide ((n : Int) > 5) = true := decide_eq_true (by omega)
 simp only [h, cond_true]
theorem TilesDraw_any (X Y S W H : Int) (A : Option Addr) (c : Nat) (xs : List Value) (w : World) (hc : xs.length ≤ c) (hin : InAt w A xs)
  (hr : ∀ x ∈ xs, ∃ (A' : Option Addr) (c' : Nat) (ys : List (List Value)), x = .slice A' ys.length c' ∧ ys.length ≤ c' ∧ Go.Proofs.Ytppklhfiajjhmaa.Reads.Rows w A' 15 (List.replicate 15 isI64) ys) :
  Calls Try.prog 10 #[.agg #[.int .i64 X, .int .i64 Y, .int .i64 S, .int .i64 W, .int .i64 H], .slice A xs.length c] w (IsTrue w) := by
 obtain ⟨es, rfl, he⟩ := in1s xs hr
 rw [List.length_map]
 have hg : ∀ σ : Sg, RV σ (.agg [iv X, iv Y, iv S, iv W, iv H]) (.agg #[.int .i64 X, .int .i64 Y, .int .i64 S, .int .i64 W, .int .i64 H]) := by
  intro σ; simp only [RV]; exact ⟨_, RVs.vals [.int .i64 X, .int .i64 Y, .int .i64 S, .int .i64 W, .int .i64 H], rfl⟩
 have two : ∀ {σ : Sg} {a : MV} {u : Value}, RV σ a u → RVs σ [.agg [iv X, iv Y, iv S, iv W, iv H], a] [.agg #[.int .i64 X, .int .i64 Y, .int .i64 S, .int .i64 W, .int .i64 H], u] := by
  intro σ a u h
  simp only [RVs]
  exact ⟨_, _, rfl, hg σ, _, _, rfl, h, rfl⟩
 have one : ∀ (hne : es ≠ []), RV (sgOf w (fun _ => .nilIface) (inL A es)) (.sl 0 0 es.length c) (.slice A es.length c) := fun hne => sl_in hin hne
 match es, hin, he, one with
 | [], _, _, _ => exact any_of (draw0 X Y S W H) (σ := none0 fun _ => .nilIface) (two (by simp only [RV]; exact ⟨A, c, rfl⟩)) (rm_nil w _)
 | [e1], hin, he, one => exact any_of (draw1 X Y S W H c e1) (two (one (by simp))) (inL_rm hin he _)
 | [e1, e2], hin, he, one => exact any_of (draw2 X Y S W H c e1 e2) (two (one (by simp))) (inL_rm hin he _)
 | [e1, e2, e3], hin, he, one => exact any_of (draw3 X Y S W H c e1 e2 e3) (two (one (by simp))) (inL_rm hin he _)
 | [e1, e2, e3, e4], hin, he, one => exact any_of (draw4 X Y S W H c e1 e2 e3 e4) (two (one (by simp))) (inL_rm hin he _)
 | [e1, e2, e3, e4, e5], hin, he, one => exact any_of (draw5 X Y S W H c e1 e2 e3 e4 e5) (two (one (by simp))) (inL_rm hin he _)
 | e1 :: e2 :: e3 :: e4 :: e5 :: e6 :: es, _, _, _ =>
  have hm := draw_many X Y S W H (e1 :: e2 :: e3 :: e4 :: e5 :: e6 :: es).length (by simp)
  refine any_of hm (σ := none0 fun _ => .slice A (e1 :: e2 :: e3 :: e4 :: e5 :: e6 :: es).length c) (two ?_) (rm_nil w _)
  simp only [RV]
  exact ⟨rfl, A, c, rfl⟩
end Go.Proofs.Ytppklhfiajjhmaa.Ti
end
