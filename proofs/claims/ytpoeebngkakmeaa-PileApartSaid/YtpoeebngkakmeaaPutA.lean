/- What is proved: the words for a box put into a pile. Conditions: none but those in the statements. -/
import Derived.Test.YtpoeebngkakmeaaPPInx
import Derived.Test.YtpoeebngkakmeaaPurePIn
import Derived.Test.YtpoeebngkakmeaaAskWords
namespace Go.Proofs.Ytpoeebngkakmeaa.PutA
open Go Go.RowKit Go.Proofs.Ytpoeebngkakmeaa.PPIn Go.Proofs.YtpoeebngkakmeaaW.PrintWords Go.Proofs.Ytpoeebngkakmeaa.Pure
set_option linter.unusedVariables false

structure St where
  ys : List Int
  e : Int
  tp : Int
  tn : Int
  cp : Int
  cn : Int
  top : Bool
structure Ch where
  tp : Int
  tn : Int
  bp : Int
  bn : Int
  ip : Int
  inn : Int
  thr : Bool
  hi : Int
def St.cells (v : Value) (s : St) : Array Value := #[v, .int .i64 s.e, .int .i64 s.tp, .int .i64 s.tn, .int .i64 s.cp, .int .i64 s.cn, .bool s.top]
def Ch.cells (c : Ch) : Array Value := #[.int .i64 c.tp, .int .i64 c.tn, .int .i64 c.bp, .int .i64 c.bn, .int .i64 c.ip, .int .i64 c.inn, .bool c.thr, .int .i64 c.hi]
/-- What put does. -/
def putS (s : St) (c : Ch) : St × Bool :=
  if s.top = true then
    if c.thr = true then (⟨s.ys ++ [0], s.e, mx s.tp c.tp, mn s.tn c.tn, s.cp, s.cn, true⟩, decide (fit s.e))
    else (⟨s.ys ++ [0], c.hi, mx s.tp c.tp, mn s.tn c.tn, c.bp, c.bn, false⟩, decide (fit c.hi))
  else if c.thr = true then
    (⟨s.ys ++ [(fsum [s.e, (fsum [mx s.cp c.ip, mn s.cn c.inn]).1]).1], s.e, s.tp, s.tn, mx s.cp c.tp, mn s.cn c.tn, false⟩, (fsum [mx s.cp c.ip, mn s.cn c.inn]).2 && (fsum [s.e, (fsum [mx s.cp c.ip, mn s.cn c.inn]).1]).2)
  else
    (⟨s.ys ++ [(fsum [s.e, (fsum [mx s.cp c.tp, mn s.cn c.tn]).1]).1], (fsum [(fsum [s.e, (fsum [mx s.cp c.tp, mn s.cn c.tn]).1]).1, c.hi]).1, s.tp, s.tn, c.bp, c.bn, false⟩,
      (fsum [mx s.cp c.tp, mn s.cn c.tn]).2 && (fsum [s.e, (fsum [mx s.cp c.tp, mn s.cn c.tn]).1]).2 && (fsum [(fsum [s.e, (fsum [mx s.cp c.tp, mn s.cn c.tn]).1]).1, c.hi]).2)

/-- A pile at g (its slice is v), and own blocks beside it, youngest first; what stood below B is as it was. -/
structure PW (B g : Nat) (os : List (Nat × Obj)) (w0 w : World) (v : Value) (ys : List Int) (cs : Array Value) : Prop where
  le : B ≤ g
  hB : Below B w0 w
  hg : w.heap[g]? = some (.cells cs 60 (0, 0))
  hR : Kd.R (Kd.int .i64) 2 w B (fun k => k ≠ g) v ys
  bx : ∀ p ∈ os, w.heap[p.1]? = some p.2 ∧ p.1 ≠ g ∧ some p.1 ≠ v.ownBlock
  sd : os.Pairwise fun p q => q.1 < p.1
section
variable {B g : Nat} {os : List (Nat × Obj)} {w0 w w1 : World} {v v1 : Value} {ys : List Int} {cs : Array Value}
theorem PW.lt (h : PW B g os w0 w v ys cs) : g < w.heap.size := blk_lt h.hg
theorem PW.call (h : PW B g os w0 w v ys cs) (hb : Below w.heap.size w w1) : PW B g os w0 w1 v ys cs :=
  ⟨h.le, h.hB.trans ⟨hb.os, hb.tape, hb.output, hb.size, fun k hk => hb.block k (by have := h.lt; have := h.le; omega)⟩, blk_below h.hg hb, Kd.R_below h.hR hb, fun p hp => ⟨blk_below (h.bx p hp).1 hb, (h.bx p hp).2⟩, h.sd⟩
theorem PW.drewN (h : PW B g os w0 w v ys cs) (n : Nat) : PW B g os w0 (w.drewN n) v ys cs := ⟨h.le, pw_below_drewN h.hB n, h.hg, h.hR, h.bx, h.sd⟩
theorem PW.drew (h : PW B g os w0 w v ys cs) : PW B g os w0 w.drew v ys cs := h.drewN 1
theorem PW.alloc (h : PW B g os w0 w v ys cs) (o : Obj) : PW B g ((w.heap.size, o) :: os) w0 (w.alloc o) v ys cs := by
  have hb : Below w.heap.size w (w.alloc o) := (Below.refl _ _).alloc (Nat.le_refl _) o
  have h2 := h.call hb
  refine ⟨h2.le, h2.hB, h2.hg, h2.hR, ?_, ?_⟩
  · intro p hp
    rcases List.mem_cons.1 hp with e | e
    · subst e
      refine ⟨heap_alloc_new w o, by have := h.lt; omega, fun e => ?_⟩
      have := Kd.R_lt h.hR _ e.symm
      omega
    · exact h2.bx p e
  · exact List.pairwise_cons.2 ⟨fun q hq => blk_lt (h.bx q hq).1, h.sd⟩
theorem PW.skip (h : PW B g os w0 w v ys cs) (o : Obj) : PW B g os w0 (w.alloc o) v ys cs := h.call ((Below.refl _ _).alloc (Nat.le_refl _) o)
theorem PW.set (h : PW B g os w0 w v ys cs) (i : Nat) (u : Value) : PW B g os w0 (w.setCell ⟨g, i, none⟩ u) v ys (cs.setIfInBounds i u) :=
  ⟨h.le, h.hB.setCell h.le _, blk_set h.hg i u, Kd.R_far h.hR (fun k hk => hk) u, fun p hp => ⟨(Below.heap_setCell w ⟨g, i, none⟩ u p.1 (h.bx p hp).2.1).trans (h.bx p hp).1, (h.bx p hp).2⟩, h.sd⟩
theorem PW.setIn {b t : Nat} {xs : Array Value} (h : PW B g ((b, .cells xs t (0, 0)) :: os) w0 w v ys cs) (i : Nat) (u : Value) (hb : B ≤ b) : PW B g ((b, .cells (xs.setIfInBounds i u) t (0, 0)) :: os) w0 (w.setCell ⟨b, i, none⟩ u) v ys cs := by
  have h0 := h.bx _ List.mem_cons_self
  have hs := List.pairwise_cons.1 h.sd
  have hR : Kd.R (Kd.int .i64) 2 w B (fun k => k ≠ g ∧ k ≠ b) v ys := Kd.R_flat (fun h => h) h.hR (fun k hk hkg => ⟨hkg, fun e => h0.2.2 (by rw [← e]; exact hk.symm)⟩)
  refine ⟨h.le, h.hB.setCell hb _, (Below.heap_setCell w ⟨b, i, none⟩ u g (Ne.symm h0.2.1)).trans h.hg, Kd.R_mono (Kd.R_far hR (fun k hk => hk.2) u) (fun k hk => hk.1), ?_, List.pairwise_cons.2 ⟨fun q hq => hs.1 q hq, hs.2⟩⟩
  intro p hp
  rcases List.mem_cons.1 hp with e | e
  · subst e
    exact ⟨blk_set h0.1 i u, h0.2⟩
  · have h3 := h.bx p (List.mem_cons_of_mem _ e)
    have := hs.1 p e
    exact ⟨(Below.heap_setCell w ⟨b, i, none⟩ u p.1 (by simp only at this ⊢; omega)).trans h3.1, h3.2⟩
theorem PW.grown (h : PW B g os w0 w v ys cs) {ys1 : List Int} (hR : Kd.R (Kd.int .i64) 2 w1 B (fun k => k ≠ g) v1 ys1) (hb : Below B w0 w1) (hgr : w.grownBy w1 v.ownBlock) (hat : v1.ownBlock = v.ownBlock ∨ ∃ b, v1.ownBlock = some b ∧ w.heap.size ≤ b) : PW B g os w0 w1 v1 ys1 cs := by
  have hne : some g ≠ v.ownBlock := fun e => h.hR.1 g e.symm rfl
  refine ⟨h.le, hb, blk_grown h.hg hgr hne, hR, fun p hp => ?_, h.sd⟩
  have h3 := h.bx p hp
  refine ⟨blk_grown h3.1 hgr h3.2.2, h3.2.1, ?_⟩
  rcases hat with e | ⟨b, e, hb⟩
  · rw [e]; exact h3.2.2
  · rw [e]
    intro e2
    injection e2 with e2
    have := blk_lt h3.1
    omega
theorem PW.cell (h : PW B g os w0 w v ys cs) (i : Nat) : w.cell? ⟨g, i, none⟩ = cs[i]? := blk_cell h.hg i
theorem PW.frozen (h : PW B g os w0 w v ys cs) (i : Nat) : w.frozen? ⟨g, i, none⟩ = false := blk_frozen h.hg i
theorem PW.cellB {b t : Nat} {xs : Array Value} (h : PW B g os w0 w v ys cs) (hm : (b, Obj.cells xs t (0, 0)) ∈ os) (i : Nat) : w.cell? ⟨b, i, none⟩ = xs[i]? := blk_cell (h.bx _ hm).1 i
theorem PW.frozenB {b t : Nat} {xs : Array Value} (h : PW B g os w0 w v ys cs) (hm : (b, Obj.cells xs t (0, 0)) ∈ os) (i : Nat) : w.frozen? ⟨b, i, none⟩ = false := blk_frozen (h.bx _ hm).1 i
theorem PW.skipB {p : Nat × Obj} (h : PW B g (p :: os) w0 w v ys cs) : PW B g os w0 w v ys cs := ⟨h.le, h.hB, h.hg, h.hR, fun q hq => h.bx q (List.mem_cons_of_mem _ hq), (List.pairwise_cons.1 h.sd).2⟩
theorem PW.drop (h : PW B g os w0 w v ys cs) : PW B g [] w0 w v ys cs := ⟨h.le, h.hB, h.hg, h.hR, by simp, List.Pairwise.nil⟩
theorem drawn_below (h : Drawn0 w w1) : Below w.heap.size w w1 := by
  obtain ⟨n, rfl⟩ := h.out
  exact pw_below_drewN (Below.refl _ _) n
end
end Go.Proofs.Ytpoeebngkakmeaa.PutA
