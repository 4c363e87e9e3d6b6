/- What is proved: two pieces of Stack's code, each laid over whatever stands around. Conditions: none but those in each statement. -/
import Derived.Test.YtpoeebngkakmeaaY14
import Derived.Test.YtpoeebngkakmeaaProg
namespace Go.Proofs.Ytpoeebngkakmeaa.StkX
open Go Go.RowKit Go.Proofs.Ytpoeebngkakmeaa.Y
set_option linter.unusedVariables false
set_option linter.unusedSimpArgs false
theorem mixed : Try.prog.follows .mixedOrders = true := by kernel_rfl
noncomputable def c32 : Code := bodyOf Try.f32
def tmS (t0 t1 t2 t3 t5 t7 t8 t9 t10 t11 t12 t13 t14 t15 t16 t17 t18 t19 t20 t21 t22 : Value) : List MV :=
  [.val t0, .val t1, .val t2, .val t3, .ptr 1 0, .val t5, .ptr 0 0, .val t7, .val t8, .val t9, .val t10, .val t11, .val t12, .val t13, .val t14, .val t15, .val t16, .val t17, .val t18, .val t19, .val t20, .val t21, .val t22]
def pileM (A : Option Addr) (n c : Nat) (e p q r s : Int) (b : Bool) : List MV := [.val (.slice A n c), .val (.int .i64 e), .val (.int .i64 p), .val (.int .i64 q), .val (.int .i64 r), .val (.int .i64 s), .val (.bool b)]
set_option maxRecDepth 100000 in
theorem r8nf (t0 t1 t2 t3 t5 t7 t8 t9 t10 t11 t12 t13 t14 t15 t16 t17 t18 t19 t20 t21 t22 : Value) (A A2 : Option Addr) (n c n2 c2 : Nat) (e p q r s e2 p2 q2 r2 s2 : Int) (b b2 : Bool) (kk : KE) : xcode Try.prog (EX Try.prog) C0 1 (cut c32 [1,1,1,0]) (tmS t0 t1 t2 t3 t5 t7 t8 t9 t10 t11 t12 t13 t14 t15 t16 t17 t18 t19 t20 t21 t22) [some ⟨.rlst (pileM A n c e p q r s b), 60⟩, some ⟨.lst (pileM A2 n2 c2 e2 p2 q2 r2 s2 b2), 60⟩] kk =
    kk XE.normal [MV.val t0, MV.val t1, MV.val t2, MV.val t3, MV.ptr 1 0, MV.val (Value.bool true), MV.ptr 0 0, MV.val t7, MV.val t8, MV.val t9, MV.val t10, MV.val t11, MV.val t12, MV.val t13, MV.val t14, MV.val t15, MV.val t16, MV.val t17, MV.val t18, MV.val t19, MV.val t20, MV.val t21, MV.agg [MV.val (Value.slice A n c), MV.val (Value.int IntKind.i64 e), MV.val (Value.int IntKind.i64 p), MV.val (Value.int IntKind.i64 q), MV.val (Value.int IntKind.i64 r), MV.val (Value.int IntKind.i64 s), MV.val (Value.bool b)]] [some { row := Row.rlst [MV.val (Value.slice A n c), MV.val (Value.int IntKind.i64 e), MV.val (Value.int IntKind.i64 p), MV.val (Value.int IntKind.i64 q), MV.val (Value.int IntKind.i64 r), MV.val (Value.int IntKind.i64 s), MV.val (Value.bool b)], ty := 60 }, some { row := Row.lst [MV.val (Value.slice A n c), MV.val (Value.int IntKind.i64 e), MV.val (Value.int IntKind.i64 p), MV.val (Value.int IntKind.i64 q), MV.val (Value.int IntKind.i64 r), MV.val (Value.int IntKind.i64 s), MV.val (Value.bool b)], ty := Blk.ty { row := Row.lst (pileM A2 n2 c2 e2 p2 q2 r2 s2 b2), ty := 60 } }] := by kernel_rfl
set_option maxRecDepth 100000 in
theorem r6nf (t0 t1 t2 t3 t5 t7 t8 t9 t10 t11 t12 t13 t14 t15 t16 t17 t18 t19 t20 t21 t22 : Value) (A A2 : Option Addr) (n c n2 c2 : Nat) (e p q r s e2 p2 q2 r2 s2 : Int) (b b2 : Bool) (kk : KE) : xcode Try.prog (EX Try.prog) C0 1 (cut c32 [1,1,0,1,0,0,1,1,0,0,1,1,0,0]) (tmS t0 t1 t2 t3 t5 t7 t8 t9 t10 t11 t12 t13 t14 t15 t16 t17 t18 t19 t20 t21 t22) [some ⟨.rlst (pileM A n c e p q r s b), 60⟩, some ⟨.lst (pileM A2 n2 c2 e2 p2 q2 r2 s2 b2), 60⟩] kk =
    kk XE.normal [MV.val t0, MV.val t1, MV.val t2, MV.val t3, MV.ptr 1 0, MV.val (Value.bool false), MV.ptr 0 0, MV.val t7, MV.val t8, MV.val t9, MV.val t10, MV.val t11, MV.val t12, MV.val t13, MV.val t14, MV.val t15, MV.val t16, MV.val t17, MV.val t18, MV.val t19, MV.agg [MV.val (Value.slice none 0 0), MV.val (Value.int IntKind.i64 0), MV.val (Value.int IntKind.i64 0), MV.val (Value.int IntKind.i64 0), MV.val (Value.int IntKind.i64 0), MV.val (Value.int IntKind.i64 0), MV.val (Value.bool false)], MV.val t21, MV.val t22] [some { row := Row.rlst [MV.val (Value.slice A n c), MV.val (Value.int IntKind.i64 e), MV.val (Value.int IntKind.i64 p), MV.val (Value.int IntKind.i64 q), MV.val (Value.int IntKind.i64 r), MV.val (Value.int IntKind.i64 s), MV.val (Value.bool b)], ty := 60 }, some { row := Row.lst [MV.val (Value.slice none 0 0), MV.val (Value.int IntKind.i64 0), MV.val (Value.int IntKind.i64 0), MV.val (Value.int IntKind.i64 0), MV.val (Value.int IntKind.i64 0), MV.val (Value.int IntKind.i64 0), MV.val (Value.bool false)], ty := Blk.ty { row := Row.lst (pileM A2 n2 c2 e2 p2 q2 r2 s2 b2), ty := 60 } }] := by kernel_rfl
def σS (g r : Nat) : Sg := ⟨fun i => if i = 0 then some g else if i = 1 then some r else none, fun _ => 7, fun _ => undef, fun _ => 0⟩
theorem σS_inv {g r i x : Nat} (h : σS g r i = some x) : (i = 0 ∧ x = g) ∨ (i = 1 ∧ x = r) := by
  have h' : (if i = 0 then some g else if i = 1 then some r else none) = some x := h
  split at h'
  · rename_i e; injection h' with h'; exact .inl ⟨e, h'.symm⟩
  · split at h'
    · rename_i e; injection h' with h'; exact .inr ⟨e, h'.symm⟩
    · cases h'
def pileV (A : Option Addr) (n c : Nat) (e p q r s : Int) (b : Bool) : List Value := [.slice A n c, .int .i64 e, .int .i64 p, .int .i64 q, .int .i64 r, .int .i64 s, .bool b]
theorem pile_vals (A : Option Addr) (n c : Nat) (e p q r s : Int) (b : Bool) : pileM A n c e p q r s b = (pileV A n c e p q r s b).map .val := rfl
theorem relS {w : World} {g r : Nat} {A A2 : Option Addr} {n c n2 c2 : Nat} {e p q u s e2 p2 q2 u2 s2 : Int} {b b2 : Bool} {a : Act} {tm : List MV} (hne : g ≠ r) (hd : a.defers = []) (ht : RVs (σS g r) tm a.tmps.toList)
    (hg : w.heap[g]? = some (.cells (pileV A n c e p q u s b).toArray 60 (0, 0))) (hr : w.heap[r]? = some (.cells (pileV A2 n2 c2 e2 p2 q2 u2 s2 b2).toArray 60 (0, 0))) :
    Rel ⟨w.heap.size, fun x => x = r⟩ w (σS g r) tm [some ⟨.rlst (pileM A n c e p q u s b), 60⟩, some ⟨.lst (pileM A2 n2 c2 e2 p2 q2 u2 s2 b2), 60⟩] a w := by
  refine ⟨hd, ht, ⟨fun i k x hk hx => ?_, fun i j x ki kj hi hj r1 r2 _ _ h1 h2 => ?_, fun i x hx => ?_, fun i x k hk hx hro => ?_, fun i x k hk hx hro _ => ?_, Bel.refl _ _, Nat.le_refl _⟩⟩
  · rcases σS_inv hx with ⟨rfl, rfl⟩ | ⟨rfl, rfl⟩
    · simp only [List.getElem?_cons_zero, Option.some.injEq] at hk
      subst hk
      exact ⟨[], pileV A n c e p q u s b, [], by simpa using hg, by show RVs _ (pileM A n c e p q u s b) _; rw [pile_vals]; exact RVs.vals _, rfl, rfl, fun h => by cases h⟩
    · simp only [List.getElem?_cons_succ, List.getElem?_cons_zero, Option.some.injEq] at hk
      subst hk
      exact ⟨[], pileV A2 n2 c2 e2 p2 q2 u2 s2 b2, [], by simpa using hr, by show RVs _ (pileM A2 n2 c2 e2 p2 q2 u2 s2 b2) _; rw [pile_vals]; exact RVs.vals _, rfl, rfl, fun _ => rfl⟩
  · rcases σS_inv h1 with ⟨rfl, rfl⟩ | ⟨rfl, rfl⟩
    · simp only [List.getElem?_cons_zero, Option.some.injEq] at hi
      subst hi
      cases r1
    · rcases σS_inv h2 with ⟨rfl, rfl⟩ | ⟨rfl, _⟩
      · simp only [List.getElem?_cons_zero, Option.some.injEq] at hj
        subst hj
        cases r2
      · rfl
  · rcases σS_inv hx with ⟨rfl, rfl⟩ | ⟨rfl, rfl⟩
    · exact ⟨_, rfl⟩
    · exact ⟨_, rfl⟩
  · rcases σS_inv hx with ⟨rfl, rfl⟩ | ⟨rfl, rfl⟩
    · simp only [List.getElem?_cons_zero, Option.some.injEq] at hk
      subst hk
      cases hro
    · exact .inr rfl
  · rcases σS_inv hx with ⟨rfl, rfl⟩ | ⟨rfl, rfl⟩
    · have := (Array.getElem?_eq_some_iff.1 hg).1
      rintro (h | h)
      · exact absurd this (Nat.not_lt.2 h)
      · exact hne h
    · simp only [List.getElem?_cons_succ, List.getElem?_cons_zero, Option.some.injEq] at hk
      subst hk
      cases hro
/-- What is so behind a piece: the result's block reads so; no other block was turned. -/
structure After (w w' : World) (r : Nat) (l : List Value) : Prop where
  at_ : w'.heap[r]? = some (.cells l.toArray 60 (0, 0))
  os : w'.os = w.os
  tape : w'.tape = w.tape
  output : w'.output = w.output
  size : w.heap.size ≤ w'.heap.size
  block : ∀ k, k < w.heap.size → k ≠ r → w'.heap[k]? = w.heap[k]?
theorem afterS {w w' : World} {g r : Nat} {σ' : Sg} {tm : List MV} {k0 : Blk} {l : List Value} {a : Act} {rest : Mem} (hl : l.length = 7) (hX : Ext (σS g r) σ') (h : Rel ⟨w.heap.size, fun x => x = r⟩ w σ' tm (some k0 :: some ⟨.lst (l.map .val), 60⟩ :: rest) a w') : After w w' r l := by
  have h1 : σS g r 1 = some r := rfl
  obtain ⟨e1, e2, _⟩ := hX.to 1 r h1
  obtain ⟨_, cs, rs, d1, d2, d3⟩ := h.mem.own (b := 1) (k := ⟨.lst (l.map .val), 60⟩) rfl rfl e1
  have d4 := RVs.vals_inv d2
  subst d4
  rw [e2] at d3
  have d5 : rs = [] := List.eq_nil_of_length_eq_zero (by
    have : (σS g r).κ 1 = 7 := rfl
    rw [this, List.length_append] at d3
    omega)
  subst d5
  refine ⟨by simpa using d1, h.mem.bel.os, h.mem.bel.tape, h.mem.bel.output, h.mem.bel.size, fun k hk hkr => h.mem.bel.block k ?_⟩
  rintro (hh | hh)
  · exact absurd hk (Nat.not_lt.2 hh)
  · exact hkr hh
theorem tm_at {σ : Sg} {tm : List MV} {us : Array Value} (h : RVs σ tm us.toList) {k : Nat} {v : Value} (hk : tm[k]? = some (.val v)) : us[k]? = some v := by
  obtain ⟨u, h1, h2⟩ := RVs.get k h hk
  have := h2.val_inv
  subst this
  simpa using h1
theorem tm_ptr {σ : Sg} {tm : List MV} {us : Array Value} (h : RVs σ tm us.toList) {k b g : Nat} (hk : tm[k]? = some (.ptr b 0)) (hb : σ b = some g) (ho : σ.off b = 0) : us[k]? = some (.pointer (some ⟨g, 0, none⟩)) := by
  obtain ⟨u, h1, h2⟩ := RVs.get k h hk
  obtain ⟨g', h3, rfl⟩ := h2.ptr_inv
  rw [hb] at h3
  injection h3 with h3
  subst h3
  rw [ho] at h1
  simpa using h1
section
variable {w : World} {g r : Nat} {A A2 : Option Addr} {n c n2 c2 : Nat} {e p q u s e2 p2 q2 u2 s2 : Int} {b b2 : Bool} {t0 t1 t2 t3 t5 t7 t8 t9 t10 t11 t12 t13 t14 t15 t16 t17 t18 t19 t20 t21 t22 : Value} {Q : Exit → Act → World → Prop}
def actS (g r : Nat) (t0 t1 t2 t3 t5 t7 t8 t9 t10 t11 t12 t13 t14 t15 t16 t17 t18 t19 t20 t21 t22 : Value) : Act :=
  { tmps := #[t0, t1, t2, t3, .pointer (some ⟨r, 0, none⟩), t5, .pointer (some ⟨g, 0, none⟩), t7, t8, t9, t10, t11, t12, t13, t14, t15, t16, t17, t18, t19, t20, t21, t22], defers := [] }
theorem tmS_ok : RVs (σS g r) (tmS t0 t1 t2 t3 t5 t7 t8 t9 t10 t11 t12 t13 t14 t15 t16 t17 t18 t19 t20 t21 t22) (actS g r t0 t1 t2 t3 t5 t7 t8 t9 t10 t11 t12 t13 t14 t15 t16 t17 t18 t19 t20 t21 t22).tmps.toList := by
  have h0 : σS g r 0 = some g := rfl
  have h1 : σS g r 1 = some r := rfl
  have o0 : (σS g r).off 0 = 0 := rfl
  have o1 : (σS g r).off 1 = 0 := rfl
  simp [tmS, actS, RVs, RV, h0, h1, o0, o1]
/-- The pile is handed back. -/
theorem r8_wp (hne : g ≠ r) (hg : w.heap[g]? = some (.cells (pileV A n c e p q u s b).toArray 60 (0, 0))) (hr : w.heap[r]? = some (.cells (pileV A2 n2 c2 e2 p2 q2 u2 s2 b2).toArray 60 (0, 0)))
    (hK : ∀ a' w', a'.defers = [] → a'.tmps[4]? = some (.pointer (some ⟨r, 0, none⟩)) → a'.tmps[5]? = some (.bool true) → After w w' r (pileV A n c e p q u s b) → Q .normal a' w') :
    (cut c32 [1,1,1,0]).wp Try.prog Q (actS g r t0 t1 t2 t3 t5 t7 t8 t9 t10 t11 t12 t13 t14 t15 t16 t17 t18 t19 t20 t21 t22) w := by
  have hx := XR.of_x (S := fun e1 tm m => e1 = .normal ∧ tm[4]? = some (.ptr 1 0) ∧ tm[5]? = some (.val (.bool true)) ∧ ∃ k0 rest, m = some k0 :: some ⟨.lst ((pileV A n c e p q u s b).map .val), 60⟩ :: rest) (EX_ok Try.prog) (C0_ok Try.prog) mixed
    (fun kk => r8nf t0 t1 t2 t3 t5 t7 t8 t9 t10 t11 t12 t13 t14 t15 t16 t17 t18 t19 t20 t21 t22 A A2 n c n2 c2 e p q u s e2 p2 q2 u2 s2 b b2 kk) ⟨rfl, rfl, rfl, _, _, rfl⟩
  refine hx _ w (σS g r) _ w Q trivial (relS hne rfl tmS_ok hg hr) ?_
  rintro e1 tm' m' σ' a' w' ⟨rfl, h4, h5, k0, rest, rfl⟩ hX hR
  refine hK a' w' hR.df ?_ (tm_at hR.tm h5) (afterS rfl hX hR)
  obtain ⟨f1, _, f3⟩ := hX.to 1 r rfl
  exact tm_ptr hR.tm h4 f1 f3
/-- Nothing is handed back. -/
theorem r6_wp (hne : g ≠ r) (hg : w.heap[g]? = some (.cells (pileV A n c e p q u s b).toArray 60 (0, 0))) (hr : w.heap[r]? = some (.cells (pileV A2 n2 c2 e2 p2 q2 u2 s2 b2).toArray 60 (0, 0)))
    (hK : ∀ a' w', a'.defers = [] → a'.tmps[4]? = some (.pointer (some ⟨r, 0, none⟩)) → a'.tmps[5]? = some (.bool false) → After w w' r (pileV none 0 0 0 0 0 0 0 false) → Q .normal a' w') :
    (cut c32 [1,1,0,1,0,0,1,1,0,0,1,1,0,0]).wp Try.prog Q (actS g r t0 t1 t2 t3 t5 t7 t8 t9 t10 t11 t12 t13 t14 t15 t16 t17 t18 t19 t20 t21 t22) w := by
  have hx := XR.of_x (S := fun e1 tm m => e1 = .normal ∧ tm[4]? = some (.ptr 1 0) ∧ tm[5]? = some (.val (.bool false)) ∧ ∃ k0 rest, m = some k0 :: some ⟨.lst ((pileV none 0 0 0 0 0 0 0 false).map .val), 60⟩ :: rest) (EX_ok Try.prog) (C0_ok Try.prog) mixed
    (fun kk => r6nf t0 t1 t2 t3 t5 t7 t8 t9 t10 t11 t12 t13 t14 t15 t16 t17 t18 t19 t20 t21 t22 A A2 n c n2 c2 e p q u s e2 p2 q2 u2 s2 b b2 kk) ⟨rfl, rfl, rfl, _, _, rfl⟩
  refine hx _ w (σS g r) _ w Q trivial (relS hne rfl tmS_ok hg hr) ?_
  rintro e1 tm' m' σ' a' w' ⟨rfl, h4, h5, k0, rest, rfl⟩ hX hR
  refine hK a' w' hR.df ?_ (tm_at hR.tm h5) (afterS rfl hX hR)
  obtain ⟨f1, _, f3⟩ := hX.to 1 r rfl
  exact tm_ptr hR.tm h4 f1 f3
end
end Go.Proofs.Ytpoeebngkakmeaa.StkX
