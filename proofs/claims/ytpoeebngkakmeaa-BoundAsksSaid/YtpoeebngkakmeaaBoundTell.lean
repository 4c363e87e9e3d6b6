/- What is proved: the contract of the method that answers what is asked in the statements of layer 10, and that the plain function answers what it is asked for. Conditions: none but those in each statement. -/
import Derived.Test.YtpoeebngkakmeaaProg
import Derived.Test.YtpoeebngkakmeaaAskWords
import Derived.Deep.RegionWith
import Derived.Deep.AppendLies
import Derived.Deep.RegionLaw
import Derived.Deep.QuietTactic
import Derived.BigQuiet
import Derived.Lib.Hide
import Derived.Outline
namespace Go.Proofs.Ytpoeebngkakmeaa.BoundTell
open Go.RowKit Go.Proofs.Ytpoeebngkakmeaa.AskWords
def cellsOf (s : List (Bool × Int)) : List Value := s.flatMap fun x => [.bool x.1, .int .i64 x.2]
theorem cellsOf_snoc (s : List (Bool × Int)) (b : Bool) (n : Int) : cellsOf (s ++ [(b, n)]) = cellsOf s ++ [.bool b, .int .i64 n] := by simp [cellsOf]
structure Teller where
  a0 : Int
  a1 : Int
  a2 : Int
  fails : Int
  p : Nat
  w0 : World
def Teller.ans (t : Teller) (k : Nat) : Int := if k = 0 then t.a0 else if k = 1 then t.a1 else t.a2
theorem ans_cell {t : Teller} {W : World} {p n : Nat} (d0 : W.cell? ⟨p, 0, none⟩ = some (.int .i64 t.a0)) (d1 : W.cell? ⟨p, 1, none⟩ = some (.int .i64 t.a1)) (d2 : W.cell? ⟨p, 2, none⟩ = some (.int .i64 t.a2)) (h : n ≤ 2) : W.cell? ⟨p, n, none⟩ = some (.int .i64 (t.ans n)) := by
  rcases (by omega : n = 0 ∨ n = 1 ∨ n = 2) with rfl | rfl | rfl
  · exact d0
  · exact d1
  · exact d2
def Teller.ok (t : Teller) (s : List (Bool × Int)) (_ : Bool) (_ : Int) : Bool := decide ((s.length : Int) + 1 ≤ t.fails)
def Teller.out (t : Teller) (s : List (Bool × Int)) (_ : Bool) (_ : Int) : Int := if (s.length : Int) + 1 ≤ t.fails then (s.length : Int) + 1 else -1
def Teller.num (t : Teller) (s : List (Bool × Int)) (_ : Bool) (_ : Int) : Int := if (s.length : Int) + 1 ≤ t.fails then t.ans s.length else 0
def nextT (s : List (Bool × Int)) (b : Bool) (n : Int) : List (Bool × Int) := s ++ [(b, n)]
/-- The block of what is asked, and the list that it has kept. -/
structure TJ (t : Teller) (g : Nat) (s : List (Bool × Int)) (w : World) : Prop where
  ex : ∃ v, w.heap[t.p]? = some (.cells #[.int .i64 t.a0, .int .i64 t.a1, .int .i64 t.a2, .int .i64 t.fails, v] 29 (0, 0)) ∧ w.ownsRow (t.p + 1) 23 2 v s.length (cellsOf s) ∧ v.ownBlock ≠ some g
  lt : t.p < g
  bel : Below t.p t.w0 w
theorem TJ.store {t : Teller} (g : Nat) (s : List (Bool × Int)) (w : World) (o : Nat) (v : Value) (h : TJ t g s w) : TJ t g s (w.setCell ⟨g, o, none⟩ v) := by
  obtain ⟨⟨u, h1, h2, h3⟩, h4, h5⟩ := h
  exact ⟨⟨u, (Below.heap_setCell _ _ _ _ (by simp; omega)).trans h1, ownsRow_setCell_other h2 (by simpa using h3) _, h3⟩, h4, h5.setCell (by simp; omega) _⟩
theorem TJ.drew {t : Teller} (g : Nat) (s : List (Bool × Int)) (w : World) (h : TJ t g s w) : TJ t g s w.drew := by
  obtain ⟨⟨u, h1, h2, h3⟩, h4, h5⟩ := h
  exact ⟨⟨u, h1, h2, h3⟩, h4, h5.drew⟩
theorem TJ.drewN {t : Teller} {g : Nat} {s : List (Bool × Int)} {w : World} (h : TJ t g s w) (k : Nat) : TJ t g s (w.drewN k) := by
  obtain ⟨⟨u, h1, h2, h3⟩, h4, h5⟩ := h
  exact ⟨⟨u, h1, h2, h3⟩, h4, below_drewN h5 k⟩
theorem TJ.alloc {t : Teller} (g : Nat) (s : List (Bool × Int)) (w : World) (o : Obj) (h : TJ t g s w) : TJ t g s (w.alloc o) := by
  obtain ⟨⟨u, h1, h2, h3⟩, h4, h5⟩ := h
  have := blk_lt h1
  exact ⟨⟨u, blk_alloc h1 _, h2.alloc _, h3⟩, h4, h5.alloc (by omega) _⟩
def End (t : Teller) (g : Nat) (s : List (Bool × Int)) (b : Bool) (n : Int) (w : World) (e : Ending) (w' : World) : Prop :=
  e = .returned (.tuple #[.int .i64 (t.out s b n), .int .i64 (t.num s b n), .bool (t.ok s b n)]) ∧ TJ t g (nextT s b n) w' ∧ w'.heap[g]? = w.heap[g]? ∧ w.heap.size ≤ w'.heap.size
theorem infoS : (Try.prog.info? 23).map (fun i => (i.zero, i.size, i.bytes)) = some (some (.agg #[.bool false, .int .i64 0]), 2, 16) := by kernel_rfl
set_option maxHeartbeats 1000000 in
set_option maxRecDepth 100000 in
theorem tell_any (t : Teller) (g : Nat) (s : List (Bool × Int)) (b : Bool) (n : Int) (w : World) (hj : TJ t g s w) (hd : s.length ≤ 2) (hg : g < w.heap.size) :
    Calls Try.prog 17 #[.pointer (some ⟨t.p, 0, none⟩), .agg #[.bool b, .int .i64 n]] w (End t g s b n w) := by
  obtain ⟨i0, hi, hz0, hz1, hz2⟩ := info_parts infoS
  obtain ⟨⟨v, hb, hown, hne⟩, hlt, hbel⟩ := hj
  have HH := Lib.hid hb
  have HO := Lib.hid hown
  have HN := Lib.hid hne
  have HL := Lib.hid hlt
  have HD := Lib.hid hd
  have HBl := Lib.hid hbel
  have Hg := Lib.hid hg
  have c3 : w.cell? ⟨t.p, 3, none⟩ = some (.int .i64 t.fails) := (blk_cell hb 3).trans rfl
  have c4 : w.cell? ⟨t.p, 4, none⟩ = some v := (blk_cell hb 4).trans rfl
  have f4 : w.frozen? ⟨t.p, 4, none⟩ = false := blk_frozen hb 4
  have hpl := blk_lt hb
  have Hi := Lib.hid hi
  have Hz0 := Lib.hid hz0
  have Hz1 := Lib.hid hz1
  have Hz2 := Lib.hid hz2
  clear hb hown hne hlt hd hbel hg hi hz0 hz1 hz2
  go_enter Try.func17, Try.ntmps17
  go_wp2
  have HNB : Hid ((((w.alloc (.cells #[.bool b, .int .i64 n] 23)).alloc (.cells #[.bool b, .int .i64 n] 23)).drew).heap[w.heap.size + 1]? = some (.cells #[.bool b, .int .i64 n] 23 (0, 0))) := by
    have := blk_new (w.alloc (.cells #[.bool b, .int .i64 n] 23)) (.cells #[.bool b, .int .i64 n] 23)
    rw [World.size_alloc] at this
    exact this
  go_region_law ((refine step_append_lies _ rfl (.tmp 12) (.tmp 14) 27 rfl (t.p + 1) 23 i0 (.agg #[.bool false, .int .i64 0]) 2 16 Try.underlying27 Hi.out Hz0.out Hz1.out Hz2.out rfl (by decide) v s.length (cellsOf s) (by simp [Act.eval]) (((HO.out.alloc _).alloc _).drew) ⟨w.heap.size + 1, 0, none⟩ 1 1 [.bool b, .int .i64 n] (by simp [Act.eval]) rfl (World.news_of_block HNB.out) (by simp [Value.oneCell']) (by omega) (by have := HD.out; unfold maxLen; omega) (by have := HD.out; omega) (by simp; omega) (w.heap.size + 2) (by simp) ?_); intro g1 cap w1 hown1 hgrow hat hlt1; have hb1 := (hgrow.block t.p (by simp; omega) (by intro e; have := (HO.out.lt _ e.symm).1; omega)).trans (blk_drew (blk_alloc (blk_alloc HH.out _) _)); have c14 := (blk_cell hb1 4).trans rfl; have f14 := blk_frozen hb1 4; have HB1 := Lib.hid hb1; have HOWN1 := Lib.hid hown1; have HGR := Lib.hid hgrow; have HAT := Lib.hid hat; clear hb1 hown1 hgrow hat)
  all_goals
    have HB2 := Lib.hid (blk_set HB1.out 4 (.slice (some ⟨g1, 0, none⟩) (s.length + 1) cap))
    have d0 : (w1.setCell ⟨t.p, 4, none⟩ (.slice (some ⟨g1, 0, none⟩) (s.length + 1) cap)).cell? ⟨t.p, 0, none⟩ = some (.int .i64 t.a0) := (blk_cell HB2.out 0).trans rfl
    have d1 : (w1.setCell ⟨t.p, 4, none⟩ (.slice (some ⟨g1, 0, none⟩) (s.length + 1) cap)).cell? ⟨t.p, 1, none⟩ = some (.int .i64 t.a1) := (blk_cell HB2.out 1).trans rfl
    have d2 : (w1.setCell ⟨t.p, 4, none⟩ (.slice (some ⟨g1, 0, none⟩) (s.length + 1) cap)).cell? ⟨t.p, 2, none⟩ = some (.int .i64 t.a2) := (blk_cell HB2.out 2).trans rfl
    have d3 : (w1.setCell ⟨t.p, 4, none⟩ (.slice (some ⟨g1, 0, none⟩) (s.length + 1) cap)).cell? ⟨t.p, 3, none⟩ = some (.int .i64 t.fails) := (blk_cell HB2.out 3).trans rfl
    have d4 : (w1.setCell ⟨t.p, 4, none⟩ (.slice (some ⟨g1, 0, none⟩) (s.length + 1) cap)).cell? ⟨t.p, 4, none⟩ = some (.slice (some ⟨g1, 0, none⟩) (s.length + 1) cap) := (blk_cell HB2.out 4).trans rfl
    clear c14 f14
    have hd3 : s.length ≤ 2 := HD.out
    have hg1 : t.p + 1 ≤ g1 := (HOWN1.out.lt g1 rfl).1
    have HF : Hid (TJ t g (nextT s b n) (w1.setCell ⟨t.p, 4, none⟩ (.slice (some ⟨g1, 0, none⟩) (s.length + 1) cap)) ∧ (w1.setCell ⟨t.p, 4, none⟩ (.slice (some ⟨g1, 0, none⟩) (s.length + 1) cap)).heap[g]? = w.heap[g]? ∧ w.heap.size ≤ (w1.setCell ⟨t.p, 4, none⟩ (.slice (some ⟨g1, 0, none⟩) (s.length + 1) cap)).heap.size) := by
      have hL := HL.out
      have hGg := Hg.out
      have hgr := HGR.out
      refine ⟨⟨⟨.slice (some ⟨g1, 0, none⟩) (s.length + 1) cap, HB2.out.trans rfl, ?_, ?_⟩, hL, ?_⟩, ?_, ?_⟩
      · unfold nextT
        rw [List.length_append, cellsOf_snoc]
        exact ownsRow_setCell_other HOWN1.out (by simp [Value.ownBlock]; omega) _
      · intro e
        have e1 : g1 = g := by simpa [Value.ownBlock] using e
        rcases HAT.out with h | h
        · exact HN.out (by rw [h, e1])
        · omega
      · have hb1 : Below t.p w w1 := by
          refine Below.grown (((Below.refl _ _).alloc (by omega) _).alloc (by simp; omega) _).drew hgr (by simp; omega) (fun k hk => ?_)
          have := (HO.out.lt k hk).1
          omega
        exact HBl.out.trans (hb1.setCell (Nat.le_refl _) _)
      · rw [Below.heap_setCell _ _ _ _ (by simp; omega), hgr.block g (by simp; omega) (fun e => HN.out e.symm)]
        show ((w.alloc _).alloc _).heap[g]? = _
        rw [Below.heap_alloc _ _ _ (by simp; omega), Below.heap_alloc _ _ _ hGg]
      · have := hgr.size
        simp [World.setCell] at this ⊢
        omega
    clear hg1
    by_cases hf : (s.length : Int) + 1 ≤ t.fails
    · have HT : Hid (t.ok s b n = true ∧ t.out s b n = (s.length : Int) + 1 ∧ t.num s b n = t.ans s.length) := Lib.hid ⟨by simp [Teller.ok, hf], by simp [Teller.out, hf], by simp [Teller.num, hf]⟩
      go_wp2
      have dk : (w1.setCell ⟨t.p, 4, none⟩ (.slice (some ⟨g1, 0, none⟩) (s.length + 1) cap)).cell? ⟨t.p, s.length, none⟩ = some (.int .i64 (t.ans s.length)) := ans_cell d0 d1 d2 hd3
      have u0 : IntKind.i64.wrap ((s.length : Int) + 1 - 1) = s.length := by rw [IntWalk.i64_in _ (by omega)]; omega
      have u1 : IntKind.i64.wrap (s.length : Int) = s.length := by rw [IntWalk.i64_in _ (by omega)]
      have u2 : (s.length : Int) < 3 := by omega
      go_quiet (fail)
      go_wp2
      go_ret3
      obtain ⟨t1, t2, t3⟩ := HT.out
      obtain ⟨j1, j2, j3⟩ := HF.out
      refine ⟨?_, TJ.drewN j1 _, j2, j3⟩
      rw [t1, t2, t3]
      rfl
    · have HT : Hid (t.ok s b n = false ∧ t.out s b n = -1 ∧ t.num s b n = 0) := Lib.hid ⟨by simp [Teller.ok]; omega, by simp [Teller.out, hf], by simp [Teller.num, hf]⟩
      go_wp2
      go_ret3
      obtain ⟨t1, t2, t3⟩ := HT.out
      obtain ⟨j1, j2, j3⟩ := HF.out
      refine ⟨?_, j1, j2, j3⟩
      rw [t1, t2, t3]
      rfl
def SameEnd (n : Int) (w : World) (e : Ending) (w' : World) : Prop := e = .returned (.tuple #[.int .i64 n, .int .i64 n, .bool true]) ∧ Below w.heap.size w w'
theorem same_any (b : Bool) (n : Int) (w : World) : Calls Try.prog 20 #[.agg #[.bool b, .int .i64 n]] w (SameEnd n w) := by
  go_enter Try.func20, Try.ntmps20
  go_wp2
  go_quiet (fail)
  go_wp2
  go_ret3
  exact ⟨rfl, below_drewN ((Below.refl _ _).alloc (Nat.le_refl _) _) _⟩
end Go.Proofs.Ytpoeebngkakmeaa.BoundTell
