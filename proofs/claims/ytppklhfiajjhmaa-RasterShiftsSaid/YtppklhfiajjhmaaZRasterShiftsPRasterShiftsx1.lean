/- What is proved: texts of the law RasterShifts, written by program, anew in fewer bytes. Conditions: none but those in each statement. -/
import Derived.Test.YtppklhfiajjhmaaZRasterShiftsPRasterShiftsx0
namespace Go.Proofs.Ytppklhfiajjhmaa.PRasterShifts
open Go.RowKit Go.Proofs.YtppklhfiajjhmaaW.PrintWords Go.Proofs.YtppklhfiajjhmaaW.PrintLast Go.Proofs.YtppklhfiajjhmaaW.PrintMore
attribute [local go_sem] max2_int min2_int max_two min_two max_three min_three max_four min_four   -- for this text's walks alone
set_option linter.unusedVariables false
set_option linter.unusedSimpArgs false

/-! ### raster_edges: function 50 -/
mutual
def raster_edges.l0 : Nat → Int → Int → List Int → List (S39) → Int → Int → Option (List Int)
 | 0, _, _, _, _, _, _ => none
 | k + 1, x1, x2, x7, x15, x16, x17 => if x17 < x16 then (if 0 ≤ x17 then (if x17 < (x15.length : Int) then ((some (([(rd_T39 x15 x17).f2.f0, (rd_T39 x15 x17).f2.f2, (rd_T39 x15 x17).f4.f0, (rd_T39 x15 x17).f4.f2, (rd_T39 x15 x17).f3.f0, (rd_T39 x15 x17).f3.f2] : List Int) : List Int)).bind fun y240 => (raster_edges.l1 k x1 x2 x7 x15 x16 x17 y240 (y240.length : Int) 0)) else (none)) else (none)) else (some x7)
def raster_edges.l1 : Nat → Int → Int → List Int → List (S39) → Int → Int → List Int → Int → Int → Option (List Int)
 | 0, _, _, _, _, _, _, _, _, _ => none
 | k + 1, x1, x2, x7, x15, x16, x17, x39, x40, x41 => if x41 < x40 then (if 0 ≤ x41 then (if x41 < (x39.length : Int) then (if (rd x39 x41) > x1 then (if (rd x39 x41) < x2 then (if x7.length < 17592186044416 then (raster_edges.l1 k x1 x2 (x7 ++ [rd x39 x41]) x15 x16 x17 x39 x40 (wrap64 (x41 + 1))) else (none)) else (raster_edges.l1 k x1 x2 x7 x15 x16 x17 x39 x40 (wrap64 (x41 + 1)))) else (raster_edges.l1 k x1 x2 x7 x15 x16 x17 x39 x40 (wrap64 (x41 + 1)))) else (none)) else (none)) else (raster_edges.l0 k x1 x2 x7 x15 x16 (wrap64 (x17 + 1)))
end
def raster_edges.g (k : Nat) (l0 : List (S39)) (a1 : Int) (a2 : Int) : Option (List Int) := raster_edges.l0 k a1 a2 (([a1, a2] : List Int)) l0 (l0.length : Int) 0
/-- What stands behind sort and compact. -/
def edg (s : List Int) : List Int := Lib.compact (s.mergeSort fun x y => decide (x ≤ y))
def places (x : S39) : List Int := [x.f2.f0, x.f2.f2, x.f4.f0, x.f4.f2, x.f3.f0, x.f3.f2]
def raster_edges.raw (l0 : List S39) (a1 a2 : Int) : List Int := [a1, a2] ++ l0.flatMap fun x => (places x).filter fun n => decide (a1 < n) && decide (n < a2)
def raster_edges.f (l0 : List S39) (a1 a2 : Int) : Option (List Int) := if l0.length ≤ 1000 then some (edg (raster_edges.raw l0 a1 a2)) else none
set_option maxHeartbeats 8000000 in
set_option maxRecDepth 100000 in
theorem raster_edges.walk (k : Nat) (A0 : Option Addr) (c0 : Nat) (l0 : List (S39)) (a1 : Int) (a2 : Int) (r : List Int) (w : World) (hr0 : Kd.C k39 w A0 l0.length l0) (hc0 : l0.length ≤ c0) (h : raster_edges.g k l0 a1 a2 = some r) (hne : r ≠ []) (hs : r.length < 4611686018427387904) :
  Calls Try.prog 50 #[.slice A0 l0.length c0, .int .i64 a1, .int .i64 a2] w fun e w' => ∃ v0_ : Value, e = .returned (v0_) ∧ Kd.R (Kd.int .i64) 2 w' w.heap.size (fun _ => True) v0_ (edg r) ∧ Below w.heap.size w w' := by
 have hu39 := Try.underlying39
 have HR0 := Aside0.mk hr0
 have HC0 := Aside0.mk hc0
 clear hr0 hc0
 have HB := Aside0.mk (Below.refl w.heap.size w)
 have H : (raster_edges.l0 k a1 a2 (([a1, a2] : List Int)) l0 (l0.length : Int) 0) = some r := h
 clear h
 obtain ⟨y235, hy235⟩ : ∃ y_ : List Int, y_ = (([a1, a2] : List Int)) := ⟨_, rfl⟩
 replace H : (raster_edges.l0 k a1 a2 y235 l0 (l0.length : Int) 0) = some r := by first | (rw [hy235]; with_reducible exact H) | (have H2_ := (Option.bind_some _ _).symm.trans H; rw [hy235]; with_reducible exact H2_) | (have H2_ := (Option.bind_some _ _).symm.trans H; with_reducible exact H2_) | with_reducible exact H | (rw [hy235]; exact H) | exact H
 have Ny235 := Aside0.mk hy235
 clear hy235
 have H' := Aside0.mk H
 clear H
 go_enter Try.func50, Try.ntmps50
 go_wp2_with (first | ((with_reducible refine gate_dst (N := 14) rfl ?_); refine Kd.R_lit (Kd.int .i64) _ 2 ?hg (N := 14) ?hd (xs := ([a1, a2] : List Int)) (inner := [.int .i64 a1, .int .i64 a2]) (ok := fun _ => True) (okp := fun _ => True) ?hr ?hp (fun _ hk => hk) trivial (Below.refl _ _) (Nat.le_refl _) (by simp) ?_; (case hd => rfl); (case hg => rfl); (case hr => first | (go_simp; done) | (go_simp; rfl)); (case hp => exact (Reps.one (show Kd.M (Kd.int .i64) _ _ _ a1 [.int .i64 a1] from rfl) (Reps.one (show Kd.M (Kd.int .i64) _ _ _ a2 [.int .i64 a2] from rfl) (Reps.none _ _)))); intro v236 w4 ho5 hb hg_ hnew_; clear hg_ hnew_; (first | rw [← Ny235.out] at ho5 | (simp only [Int.reduceToNat] at ho5; rw [← Ny235.out] at ho5)); have n0_ := Aside0.mk (Kd.R_lower ho5 (below_size (by repeat (first | (with_reducible first | exact HB.out | apply below_alloc | apply pw_below_drewN | apply below_drew1) | exact HB.out)))); have n1_ := Aside0.mk (below_step (by repeat (first | (with_reducible first | exact HB.out | apply below_alloc | apply pw_below_drewN | apply below_drew1) | exact HB.out)) hb); clear HB; have HO237 := n0_; have HB := n1_; clear n0_ n1_; clear hb ho5))
 go_loopg [7, 17] k (fun kq v7 v17 w' => ∃ (x7_1 : List Int) (x17_1 : Int), v17 = .int .i64 x17_1 ∧ Aside0 (raster_edges.l0 kq a1 a2 x7_1 l0 (l0.length : Int) x17_1 = some r) ∧ Aside0 (kq ≤ k) ∧ Aside0 (Kd.R (Kd.int .i64) 2 w' w.heap.size (fun _ => True) v7 x7_1) ∧ Aside0 (Below w.heap.size w w'))
 case atStart => exact ⟨(y235), (0), (by first | rfl | (simp; done) | (simp [*]; done)), H', ⟨Nat.le_refl _⟩, ⟨by (with_reducible repeat (first | apply Kd.R_alloc | apply Kd.R_drewN | apply Kd.R_drew)); exact HO237.out⟩, ⟨by repeat (first | (with_reducible first | exact HB.out | apply below_alloc | apply pw_below_drewN | apply below_drew1) | exact HB.out)⟩⟩
 case round =>
  clear H'
  try clear p2
  try clear c5
  obtain ⟨x7_1, x17_1, rfl, HA, HK1, HO_7, HB⟩ := hrel
  cases gk with
  | zero => exact absurd HA.out (by simp [raster_edges.l0])
  | succ k1 =>
   have H := HA.out
   clear HA
   simp only [raster_edges.l0] at H
   by_cases c6 : x17_1 < (l0.length : Int)
   ·rw [if_pos c6] at H
    have c6b0 : decide (x17_1 < (l0.length : Int)) = true := decide_eq_true c6
    clear c6
    by_cases c7 : 0 ≤ x17_1
    ·rw [if_pos c7] at H
     have c7b0 : decide (0 ≤ x17_1) = true := decide_eq_true c7
     clear c7
     by_cases c8 : x17_1 < (l0.length : Int)
     ·rw [if_pos c8] at H
      have c8b0 : decide (x17_1 < (l0.length : Int)) = true := decide_eq_true c8
      clear c8
      obtain ⟨y240, hy240⟩ : ∃ y_ : List Int, y_ = (([(rd_T39 l0 x17_1).f2.f0, (rd_T39 l0 x17_1).f2.f2, (rd_T39 l0 x17_1).f4.f0, (rd_T39 l0 x17_1).f4.f2, (rd_T39 l0 x17_1).f3.f0, (rd_T39 l0 x17_1).f3.f2] : List Int)) := ⟨_, rfl⟩
      replace H : (raster_edges.l1 k1 a1 a2 x7_1 l0 (l0.length : Int) x17_1 y240 (y240.length : Int) 0) = some r := by first | (rw [hy240]; with_reducible exact H) | (have H2_ := (Option.bind_some _ _).symm.trans H; rw [hy240]; with_reducible exact H2_) | (have H2_ := (Option.bind_some _ _).symm.trans H; with_reducible exact H2_) | with_reducible exact H | (rw [hy240]; exact H) | exact H
      have Ny240 := Aside0.mk hy240
      clear hy240
      have H' := Aside0.mk H
      clear H
      have p238 : 0 ≤ (x17_1 : Int) := of_decide_eq_true (by first | (with_reducible assumption) | assumption)
      have q238 : x17_1 < (l0.length : Int) := of_decide_eq_true (by first | (with_reducible assumption) | assumption)
      obtain ⟨ad238, e238, hx238_0, hx238_1, hx238_2, hx238_3, hx238_4, hx238_5, hx238_6, hx238_7, hx238_8, hx238_9, hx238_10, hx238_11, hx238_12, hx238_13, hx238_14⟩ := at_T39 HR0.out x17_1 p238 q238
      cases e238
      replace hx238_0 := (HB.out.cell (World.block_lt_of_cell? w _ hx238_0)).trans hx238_0
      replace hx238_1 := (HB.out.cell (World.block_lt_of_cell? w _ hx238_1)).trans hx238_1
      replace hx238_2 := (HB.out.cell (World.block_lt_of_cell? w _ hx238_2)).trans hx238_2
      replace hx238_3 := (HB.out.cell (World.block_lt_of_cell? w _ hx238_3)).trans hx238_3
      replace hx238_4 := (HB.out.cell (World.block_lt_of_cell? w _ hx238_4)).trans hx238_4
      replace hx238_5 := (HB.out.cell (World.block_lt_of_cell? w _ hx238_5)).trans hx238_5
      replace hx238_6 := (HB.out.cell (World.block_lt_of_cell? w _ hx238_6)).trans hx238_6
      replace hx238_7 := (HB.out.cell (World.block_lt_of_cell? w _ hx238_7)).trans hx238_7
      replace hx238_8 := (HB.out.cell (World.block_lt_of_cell? w _ hx238_8)).trans hx238_8
      replace hx238_9 := (HB.out.cell (World.block_lt_of_cell? w _ hx238_9)).trans hx238_9
      replace hx238_10 := (HB.out.cell (World.block_lt_of_cell? w _ hx238_10)).trans hx238_10
      replace hx238_11 := (HB.out.cell (World.block_lt_of_cell? w _ hx238_11)).trans hx238_11
      replace hx238_12 := (HB.out.cell (World.block_lt_of_cell? w _ hx238_12)).trans hx238_12
      replace hx238_13 := (HB.out.cell (World.block_lt_of_cell? w _ hx238_13)).trans hx238_13
      replace hx238_14 := (HB.out.cell (World.block_lt_of_cell? w _ hx238_14)).trans hx238_14
      replace p238 := eq_true p238
      replace q238 := eq_true q238
      go_wp2_with (first | ((with_reducible refine gate_dst (N := 9) rfl ?_); refine box_event ?hg (N := 9) ?hd (cs := #[.int .i64 0, .int .i64 0, .int .i64 0, .int .i64 0, .int .i64 0, .int .i64 0, .int .i64 0, .int .i64 0, .int .i64 0, .int .i64 0, .int .i64 0, .int .i64 0, .int .i64 0, .int .i64 0, .int .i64 0]) (t := 39) ?hr ?_; (case hd => rfl); (case hg => rfl); (case hr => first | (go_simp; done) | (go_simp; rfl)); intro gb239 hg w9 hbox hb; have n0_ := Aside0.mk (Kd.R_below (by (with_reducible repeat (first | apply Kd.R_alloc | apply Kd.R_drewN | apply Kd.R_drew)); exact HO_7.out) hb); have n1_ := Aside0.mk (below_step (by repeat (first | (with_reducible first | exact HB.out | apply below_alloc | apply pw_below_drewN | apply below_drew1) | exact HB.out)) hb); have n2_ := Aside0.mk (hbox); have n3_ := Aside0.mk ((by rw [hg]; exact (below_size (by repeat (first | (with_reducible first | exact HB.out | apply below_alloc | apply pw_below_drewN | apply below_drew1) | exact HB.out))) : w.heap.size ≤ gb239)); have n4_ := Aside0.mk ((by rw [hg]; exact (below_size (by repeat (first | (with_reducible first | exact HB.out | apply below_alloc | apply pw_below_drewN | apply below_drew1) | exact HB.out))) : w.heap.size ≤ gb239)); clear HO_7; clear HB; have HO_7 := n0_; have HB := n1_; have BK239 := n2_; have GW239 := n3_; have GE239 := n4_; clear n0_ n1_ n2_ n3_ n4_; clear hb hbox hg; have hcz10_0 : w9.cell? ⟨gb239, 0, none⟩ = some (.int .i64 0) := (blk_cell BK239.out 0).trans rfl; have hcz10_1 : w9.cell? ⟨gb239, 1, none⟩ = some (.int .i64 0) := (blk_cell BK239.out 1).trans rfl; have hcz10_2 : w9.cell? ⟨gb239, 2, none⟩ = some (.int .i64 0) := (blk_cell BK239.out 2).trans rfl; have hcz10_3 : w9.cell? ⟨gb239, 3, none⟩ = some (.int .i64 0) := (blk_cell BK239.out 3).trans rfl; have hcz10_4 : w9.cell? ⟨gb239, 4, none⟩ = some (.int .i64 0) := (blk_cell BK239.out 4).trans rfl; have hcz10_5 : w9.cell? ⟨gb239, 5, none⟩ = some (.int .i64 0) := (blk_cell BK239.out 5).trans rfl; have hcz10_6 : w9.cell? ⟨gb239, 6, none⟩ = some (.int .i64 0) := (blk_cell BK239.out 6).trans rfl; have hcz10_7 : w9.cell? ⟨gb239, 7, none⟩ = some (.int .i64 0) := (blk_cell BK239.out 7).trans rfl; have hcz10_8 : w9.cell? ⟨gb239, 8, none⟩ = some (.int .i64 0) := (blk_cell BK239.out 8).trans rfl; have hcz10_9 : w9.cell? ⟨gb239, 9, none⟩ = some (.int .i64 0) := (blk_cell BK239.out 9).trans rfl; have hcz10_10 : w9.cell? ⟨gb239, 10, none⟩ = some (.int .i64 0) := (blk_cell BK239.out 10).trans rfl; have hcz10_11 : w9.cell? ⟨gb239, 11, none⟩ = some (.int .i64 0) := (blk_cell BK239.out 11).trans rfl; have hcz10_12 : w9.cell? ⟨gb239, 12, none⟩ = some (.int .i64 0) := (blk_cell BK239.out 12).trans rfl; have hcz10_13 : w9.cell? ⟨gb239, 13, none⟩ = some (.int .i64 0) := (blk_cell BK239.out 13).trans rfl; have hcz10_14 : w9.cell? ⟨gb239, 14, none⟩ = some (.int .i64 0) := (blk_cell BK239.out 14).trans rfl; have hfz10_0 := blk_frozen BK239.out 0; have hfz10_1 := blk_frozen BK239.out 1; have hfz10_2 := blk_frozen BK239.out 2; have hfz10_3 := blk_frozen BK239.out 3; have hfz10_4 := blk_frozen BK239.out 4; have hfz10_5 := blk_frozen BK239.out 5; have hfz10_6 := blk_frozen BK239.out 6; have hfz10_7 := blk_frozen BK239.out 7; have hfz10_8 := blk_frozen BK239.out 8; have hfz10_9 := blk_frozen BK239.out 9; have hfz10_10 := blk_frozen BK239.out 10; have hfz10_11 := blk_frozen BK239.out 11; have hfz10_12 := blk_frozen BK239.out 12; have hfz10_13 := blk_frozen BK239.out 13; have hfz10_14 := blk_frozen BK239.out 14) | ((with_reducible refine gate_dst (N := 39) rfl ?_); refine Kd.R_lit (Kd.int .i64) _ 2 ?hg (N := 39) ?hd (xs := ([(rd_T39 l0 x17_1).f2.f0, (rd_T39 l0 x17_1).f2.f2, (rd_T39 l0 x17_1).f4.f0, (rd_T39 l0 x17_1).f4.f2, (rd_T39 l0 x17_1).f3.f0, (rd_T39 l0 x17_1).f3.f2] : List Int)) (inner := [.int .i64 ((rd_T39 l0 x17_1).f2.f0), .int .i64 ((rd_T39 l0 x17_1).f2.f2), .int .i64 ((rd_T39 l0 x17_1).f4.f0), .int .i64 ((rd_T39 l0 x17_1).f4.f2), .int .i64 ((rd_T39 l0 x17_1).f3.f0), .int .i64 ((rd_T39 l0 x17_1).f3.f2)]) (ok := fun _ => True) (okp := fun _ => True) ?hr ?hp (fun _ hk => hk) trivial (Below.refl _ _) (Nat.le_refl _) (by simp) ?_; (case hd => rfl); (case hg => rfl); (case hr => first | (go_simp; done) | (go_simp; rfl)); (case hp => exact (Reps.one (show Kd.M (Kd.int .i64) _ _ _ ((rd_T39 l0 x17_1).f2.f0) [.int .i64 ((rd_T39 l0 x17_1).f2.f0)] from rfl) (Reps.one (show Kd.M (Kd.int .i64) _ _ _ ((rd_T39 l0 x17_1).f2.f2) [.int .i64 ((rd_T39 l0 x17_1).f2.f2)] from rfl) (Reps.one (show Kd.M (Kd.int .i64) _ _ _ ((rd_T39 l0 x17_1).f4.f0) [.int .i64 ((rd_T39 l0 x17_1).f4.f0)] from rfl) (Reps.one (show Kd.M (Kd.int .i64) _ _ _ ((rd_T39 l0 x17_1).f4.f2) [.int .i64 ((rd_T39 l0 x17_1).f4.f2)] from rfl) (Reps.one (show Kd.M (Kd.int .i64) _ _ _ ((rd_T39 l0 x17_1).f3.f0) [.int .i64 ((rd_T39 l0 x17_1).f3.f0)] from rfl) (Reps.one (show Kd.M (Kd.int .i64) _ _ _ ((rd_T39 l0 x17_1).f3.f2) [.int .i64 ((rd_T39 l0 x17_1).f3.f2)] from rfl) (Reps.none _ _)))))))); intro v241 w11 ho12 hb hg_ hnew_; clear hg_ hnew_; (first | rw [← Ny240.out] at ho12 | (simp only [Int.reduceToNat] at ho12; rw [← Ny240.out] at ho12)); have n0_ := Aside0.mk (Kd.R_elder' (by (with_reducible repeat (first | apply Kd.R_alloc | apply Kd.R_drewN | apply Kd.R_drew)); exact (Kd.R_mono (Kd.R_far (p := ⟨gb239, 14, none⟩) (Kd.R_far (p := ⟨gb239, 13, none⟩) (Kd.R_far (p := ⟨gb239, 12, none⟩) (Kd.R_far (p := ⟨gb239, 11, none⟩) (Kd.R_far (p := ⟨gb239, 10, none⟩) (Kd.R_far (p := ⟨gb239, 9, none⟩) (Kd.R_far (p := ⟨gb239, 8, none⟩) (Kd.R_far (p := ⟨gb239, 7, none⟩) (Kd.R_far (p := ⟨gb239, 6, none⟩) (Kd.R_far (p := ⟨gb239, 5, none⟩) (Kd.R_far (p := ⟨gb239, 4, none⟩) (Kd.R_far (p := ⟨gb239, 3, none⟩) (Kd.R_far (p := ⟨gb239, 2, none⟩) (Kd.R_far (p := ⟨gb239, 1, none⟩) (Kd.R_far (p := ⟨gb239, 0, none⟩) (Kd.R_types HO_7.out BK239.out (by decide)) (fun _ hk => hk.2) (.int .i64 ((rd_T39 l0 x17_1).f0))) (fun _ hk => hk.2) (.int .i64 ((rd_T39 l0 x17_1).f1))) (fun _ hk => hk.2) (.int .i64 ((rd_T39 l0 x17_1).f2.f0))) (fun _ hk => hk.2) (.int .i64 ((rd_T39 l0 x17_1).f2.f1))) (fun _ hk => hk.2) (.int .i64 ((rd_T39 l0 x17_1).f2.f2))) (fun _ hk => hk.2) (.int .i64 ((rd_T39 l0 x17_1).f2.f3))) (fun _ hk => hk.2) (.int .i64 ((rd_T39 l0 x17_1).f3.f0))) (fun _ hk => hk.2) (.int .i64 ((rd_T39 l0 x17_1).f3.f1))) (fun _ hk => hk.2) (.int .i64 ((rd_T39 l0 x17_1).f3.f2))) (fun _ hk => hk.2) (.int .i64 ((rd_T39 l0 x17_1).f3.f3))) (fun _ hk => hk.2) (.int .i64 ((rd_T39 l0 x17_1).f4.f0))) (fun _ hk => hk.2) (.int .i64 ((rd_T39 l0 x17_1).f4.f1))) (fun _ hk => hk.2) (.int .i64 ((rd_T39 l0 x17_1).f4.f2))) (fun _ hk => hk.2) (.int .i64 ((rd_T39 l0 x17_1).f4.f3))) (fun _ hk => hk.2) (.int .i64 ((rd_T39 l0 x17_1).f5))) (fun _ h_ => h_.1))) (Kd.R_base ho12) hb); have n1_ := Aside0.mk (Kd.R_lower (Kd.R_new' ho12 (Kd.R_lt (by (with_reducible repeat (first | apply Kd.R_alloc | apply Kd.R_drewN | apply Kd.R_drew)); exact (Kd.R_mono (Kd.R_far (p := ⟨gb239, 14, none⟩) (Kd.R_far (p := ⟨gb239, 13, none⟩) (Kd.R_far (p := ⟨gb239, 12, none⟩) (Kd.R_far (p := ⟨gb239, 11, none⟩) (Kd.R_far (p := ⟨gb239, 10, none⟩) (Kd.R_far (p := ⟨gb239, 9, none⟩) (Kd.R_far (p := ⟨gb239, 8, none⟩) (Kd.R_far (p := ⟨gb239, 7, none⟩) (Kd.R_far (p := ⟨gb239, 6, none⟩) (Kd.R_far (p := ⟨gb239, 5, none⟩) (Kd.R_far (p := ⟨gb239, 4, none⟩) (Kd.R_far (p := ⟨gb239, 3, none⟩) (Kd.R_far (p := ⟨gb239, 2, none⟩) (Kd.R_far (p := ⟨gb239, 1, none⟩) (Kd.R_far (p := ⟨gb239, 0, none⟩) (Kd.R_types HO_7.out BK239.out (by decide)) (fun _ hk => hk.2) (.int .i64 ((rd_T39 l0 x17_1).f0))) (fun _ hk => hk.2) (.int .i64 ((rd_T39 l0 x17_1).f1))) (fun _ hk => hk.2) (.int .i64 ((rd_T39 l0 x17_1).f2.f0))) (fun _ hk => hk.2) (.int .i64 ((rd_T39 l0 x17_1).f2.f1))) (fun _ hk => hk.2) (.int .i64 ((rd_T39 l0 x17_1).f2.f2))) (fun _ hk => hk.2) (.int .i64 ((rd_T39 l0 x17_1).f2.f3))) (fun _ hk => hk.2) (.int .i64 ((rd_T39 l0 x17_1).f3.f0))) (fun _ hk => hk.2) (.int .i64 ((rd_T39 l0 x17_1).f3.f1))) (fun _ hk => hk.2) (.int .i64 ((rd_T39 l0 x17_1).f3.f2))) (fun _ hk => hk.2) (.int .i64 ((rd_T39 l0 x17_1).f3.f3))) (fun _ hk => hk.2) (.int .i64 ((rd_T39 l0 x17_1).f4.f0))) (fun _ hk => hk.2) (.int .i64 ((rd_T39 l0 x17_1).f4.f1))) (fun _ hk => hk.2) (.int .i64 ((rd_T39 l0 x17_1).f4.f2))) (fun _ hk => hk.2) (.int .i64 ((rd_T39 l0 x17_1).f4.f3))) (fun _ hk => hk.2) (.int .i64 ((rd_T39 l0 x17_1).f5))) (fun _ h_ => h_.1))))) (below_size (by repeat (first | (with_reducible first | exact HB.out | apply below_alloc | apply pw_below_drewN | apply below_drew1 | refine below_set ?_ GE239.out) | exact HB.out)))); have n2_ := Aside0.mk (blk_below (g := gb239) (o := .cells #[.int .i64 ((rd_T39 l0 x17_1).f0), .int .i64 ((rd_T39 l0 x17_1).f1), .int .i64 ((rd_T39 l0 x17_1).f2.f0), .int .i64 ((rd_T39 l0 x17_1).f2.f1), .int .i64 ((rd_T39 l0 x17_1).f2.f2), .int .i64 ((rd_T39 l0 x17_1).f2.f3), .int .i64 ((rd_T39 l0 x17_1).f3.f0), .int .i64 ((rd_T39 l0 x17_1).f3.f1), .int .i64 ((rd_T39 l0 x17_1).f3.f2), .int .i64 ((rd_T39 l0 x17_1).f3.f3), .int .i64 ((rd_T39 l0 x17_1).f4.f0), .int .i64 ((rd_T39 l0 x17_1).f4.f1), .int .i64 ((rd_T39 l0 x17_1).f4.f2), .int .i64 ((rd_T39 l0 x17_1).f4.f3), .int .i64 ((rd_T39 l0 x17_1).f5)] 39 (0, 0)) (by (with_reducible repeat (first | refine blk_drewN ?_ _ | refine blk_drew ?_ | refine blk_alloc ?_ _)); refine blk_put (cs := #[.int .i64 ((rd_T39 l0 x17_1).f0), .int .i64 ((rd_T39 l0 x17_1).f1), .int .i64 ((rd_T39 l0 x17_1).f2.f0), .int .i64 ((rd_T39 l0 x17_1).f2.f1), .int .i64 ((rd_T39 l0 x17_1).f2.f2), .int .i64 ((rd_T39 l0 x17_1).f2.f3), .int .i64 ((rd_T39 l0 x17_1).f3.f0), .int .i64 ((rd_T39 l0 x17_1).f3.f1), .int .i64 ((rd_T39 l0 x17_1).f3.f2), .int .i64 ((rd_T39 l0 x17_1).f3.f3), .int .i64 ((rd_T39 l0 x17_1).f4.f0), .int .i64 ((rd_T39 l0 x17_1).f4.f1), .int .i64 ((rd_T39 l0 x17_1).f4.f2), .int .i64 ((rd_T39 l0 x17_1).f4.f3), .int .i64 0]) ?_ 14 _ rfl; (with_reducible repeat (first | refine blk_drewN ?_ _ | refine blk_drew ?_ | refine blk_alloc ?_ _)); refine blk_put (cs := #[.int .i64 ((rd_T39 l0 x17_1).f0), .int .i64 ((rd_T39 l0 x17_1).f1), .int .i64 ((rd_T39 l0 x17_1).f2.f0), .int .i64 ((rd_T39 l0 x17_1).f2.f1), .int .i64 ((rd_T39 l0 x17_1).f2.f2), .int .i64 ((rd_T39 l0 x17_1).f2.f3), .int .i64 ((rd_T39 l0 x17_1).f3.f0), .int .i64 ((rd_T39 l0 x17_1).f3.f1), .int .i64 ((rd_T39 l0 x17_1).f3.f2), .int .i64 ((rd_T39 l0 x17_1).f3.f3), .int .i64 ((rd_T39 l0 x17_1).f4.f0), .int .i64 ((rd_T39 l0 x17_1).f4.f1), .int .i64 ((rd_T39 l0 x17_1).f4.f2), .int .i64 0, .int .i64 0]) ?_ 13 _ rfl; (with_reducible repeat (first | refine blk_drewN ?_ _ | refine blk_drew ?_ | refine blk_alloc ?_ _)); refine blk_put (cs := #[.int .i64 ((rd_T39 l0 x17_1).f0), .int .i64 ((rd_T39 l0 x17_1).f1), .int .i64 ((rd_T39 l0 x17_1).f2.f0), .int .i64 ((rd_T39 l0 x17_1).f2.f1), .int .i64 ((rd_T39 l0 x17_1).f2.f2), .int .i64 ((rd_T39 l0 x17_1).f2.f3), .int .i64 ((rd_T39 l0 x17_1).f3.f0), .int .i64 ((rd_T39 l0 x17_1).f3.f1), .int .i64 ((rd_T39 l0 x17_1).f3.f2), .int .i64 ((rd_T39 l0 x17_1).f3.f3), .int .i64 ((rd_T39 l0 x17_1).f4.f0), .int .i64 ((rd_T39 l0 x17_1).f4.f1), .int .i64 0, .int .i64 0, .int .i64 0]) ?_ 12 _ rfl; (with_reducible repeat (first | refine blk_drewN ?_ _ | refine blk_drew ?_ | refine blk_alloc ?_ _)); refine blk_put (cs := #[.int .i64 ((rd_T39 l0 x17_1).f0), .int .i64 ((rd_T39 l0 x17_1).f1), .int .i64 ((rd_T39 l0 x17_1).f2.f0), .int .i64 ((rd_T39 l0 x17_1).f2.f1), .int .i64 ((rd_T39 l0 x17_1).f2.f2), .int .i64 ((rd_T39 l0 x17_1).f2.f3), .int .i64 ((rd_T39 l0 x17_1).f3.f0), .int .i64 ((rd_T39 l0 x17_1).f3.f1), .int .i64 ((rd_T39 l0 x17_1).f3.f2), .int .i64 ((rd_T39 l0 x17_1).f3.f3), .int .i64 ((rd_T39 l0 x17_1).f4.f0), .int .i64 0, .int .i64 0, .int .i64 0, .int .i64 0]) ?_ 11 _ rfl; (with_reducible repeat (first | refine blk_drewN ?_ _ | refine blk_drew ?_ | refine blk_alloc ?_ _)); refine blk_put (cs := #[.int .i64 ((rd_T39 l0 x17_1).f0), .int .i64 ((rd_T39 l0 x17_1).f1), .int .i64 ((rd_T39 l0 x17_1).f2.f0), .int .i64 ((rd_T39 l0 x17_1).f2.f1), .int .i64 ((rd_T39 l0 x17_1).f2.f2), .int .i64 ((rd_T39 l0 x17_1).f2.f3), .int .i64 ((rd_T39 l0 x17_1).f3.f0), .int .i64 ((rd_T39 l0 x17_1).f3.f1), .int .i64 ((rd_T39 l0 x17_1).f3.f2), .int .i64 ((rd_T39 l0 x17_1).f3.f3), .int .i64 0, .int .i64 0, .int .i64 0, .int .i64 0, .int .i64 0]) ?_ 10 _ rfl; (with_reducible repeat (first | refine blk_drewN ?_ _ | refine blk_drew ?_ | refine blk_alloc ?_ _)); refine blk_put (cs := #[.int .i64 ((rd_T39 l0 x17_1).f0), .int .i64 ((rd_T39 l0 x17_1).f1), .int .i64 ((rd_T39 l0 x17_1).f2.f0), .int .i64 ((rd_T39 l0 x17_1).f2.f1), .int .i64 ((rd_T39 l0 x17_1).f2.f2), .int .i64 ((rd_T39 l0 x17_1).f2.f3), .int .i64 ((rd_T39 l0 x17_1).f3.f0), .int .i64 ((rd_T39 l0 x17_1).f3.f1), .int .i64 ((rd_T39 l0 x17_1).f3.f2), .int .i64 0, .int .i64 0, .int .i64 0, .int .i64 0, .int .i64 0, .int .i64 0]) ?_ 9 _ rfl; (with_reducible repeat (first | refine blk_drewN ?_ _ | refine blk_drew ?_ | refine blk_alloc ?_ _)); refine blk_put (cs := #[.int .i64 ((rd_T39 l0 x17_1).f0), .int .i64 ((rd_T39 l0 x17_1).f1), .int .i64 ((rd_T39 l0 x17_1).f2.f0), .int .i64 ((rd_T39 l0 x17_1).f2.f1), .int .i64 ((rd_T39 l0 x17_1).f2.f2), .int .i64 ((rd_T39 l0 x17_1).f2.f3), .int .i64 ((rd_T39 l0 x17_1).f3.f0), .int .i64 ((rd_T39 l0 x17_1).f3.f1), .int .i64 0, .int .i64 0, .int .i64 0, .int .i64 0, .int .i64 0, .int .i64 0, .int .i64 0]) ?_ 8 _ rfl; (with_reducible repeat (first | refine blk_drewN ?_ _ | refine blk_drew ?_ | refine blk_alloc ?_ _)); refine blk_put (cs := #[.int .i64 ((rd_T39 l0 x17_1).f0), .int .i64 ((rd_T39 l0 x17_1).f1), .int .i64 ((rd_T39 l0 x17_1).f2.f0), .int .i64 ((rd_T39 l0 x17_1).f2.f1), .int .i64 ((rd_T39 l0 x17_1).f2.f2), .int .i64 ((rd_T39 l0 x17_1).f2.f3), .int .i64 ((rd_T39 l0 x17_1).f3.f0), .int .i64 0, .int .i64 0, .int .i64 0, .int .i64 0, .int .i64 0, .int .i64 0, .int .i64 0, .int .i64 0]) ?_ 7 _ rfl; (with_reducible repeat (first | refine blk_drewN ?_ _ | refine blk_drew ?_ | refine blk_alloc ?_ _)); refine blk_put (cs := #[.int .i64 ((rd_T39 l0 x17_1).f0), .int .i64 ((rd_T39 l0 x17_1).f1), .int .i64 ((rd_T39 l0 x17_1).f2.f0), .int .i64 ((rd_T39 l0 x17_1).f2.f1), .int .i64 ((rd_T39 l0 x17_1).f2.f2), .int .i64 ((rd_T39 l0 x17_1).f2.f3), .int .i64 0, .int .i64 0, .int .i64 0, .int .i64 0, .int .i64 0, .int .i64 0, .int .i64 0, .int .i64 0, .int .i64 0]) ?_ 6 _ rfl; (with_reducible repeat (first | refine blk_drewN ?_ _ | refine blk_drew ?_ | refine blk_alloc ?_ _)); refine blk_put (cs := #[.int .i64 ((rd_T39 l0 x17_1).f0), .int .i64 ((rd_T39 l0 x17_1).f1), .int .i64 ((rd_T39 l0 x17_1).f2.f0), .int .i64 ((rd_T39 l0 x17_1).f2.f1), .int .i64 ((rd_T39 l0 x17_1).f2.f2), .int .i64 0, .int .i64 0, .int .i64 0, .int .i64 0, .int .i64 0, .int .i64 0, .int .i64 0, .int .i64 0, .int .i64 0, .int .i64 0]) ?_ 5 _ rfl; (with_reducible repeat (first | refine blk_drewN ?_ _ | refine blk_drew ?_ | refine blk_alloc ?_ _)); refine blk_put (cs := #[.int .i64 ((rd_T39 l0 x17_1).f0), .int .i64 ((rd_T39 l0 x17_1).f1), .int .i64 ((rd_T39 l0 x17_1).f2.f0), .int .i64 ((rd_T39 l0 x17_1).f2.f1), .int .i64 0, .int .i64 0, .int .i64 0, .int .i64 0, .int .i64 0, .int .i64 0, .int .i64 0, .int .i64 0, .int .i64 0, .int .i64 0, .int .i64 0]) ?_ 4 _ rfl; (with_reducible repeat (first | refine blk_drewN ?_ _ | refine blk_drew ?_ | refine blk_alloc ?_ _)); refine blk_put (cs := #[.int .i64 ((rd_T39 l0 x17_1).f0), .int .i64 ((rd_T39 l0 x17_1).f1), .int .i64 ((rd_T39 l0 x17_1).f2.f0), .int .i64 0, .int .i64 0, .int .i64 0, .int .i64 0, .int .i64 0, .int .i64 0, .int .i64 0, .int .i64 0, .int .i64 0, .int .i64 0, .int .i64 0, .int .i64 0]) ?_ 3 _ rfl; (with_reducible repeat (first | refine blk_drewN ?_ _ | refine blk_drew ?_ | refine blk_alloc ?_ _)); refine blk_put (cs := #[.int .i64 ((rd_T39 l0 x17_1).f0), .int .i64 ((rd_T39 l0 x17_1).f1), .int .i64 0, .int .i64 0, .int .i64 0, .int .i64 0, .int .i64 0, .int .i64 0, .int .i64 0, .int .i64 0, .int .i64 0, .int .i64 0, .int .i64 0, .int .i64 0, .int .i64 0]) ?_ 2 _ rfl; (with_reducible repeat (first | refine blk_drewN ?_ _ | refine blk_drew ?_ | refine blk_alloc ?_ _)); refine blk_put (cs := #[.int .i64 ((rd_T39 l0 x17_1).f0), .int .i64 0, .int .i64 0, .int .i64 0, .int .i64 0, .int .i64 0, .int .i64 0, .int .i64 0, .int .i64 0, .int .i64 0, .int .i64 0, .int .i64 0, .int .i64 0, .int .i64 0, .int .i64 0]) ?_ 1 _ rfl; (with_reducible repeat (first | refine blk_drewN ?_ _ | refine blk_drew ?_ | refine blk_alloc ?_ _)); refine blk_put (cs := #[.int .i64 0, .int .i64 0, .int .i64 0, .int .i64 0, .int .i64 0, .int .i64 0, .int .i64 0, .int .i64 0, .int .i64 0, .int .i64 0, .int .i64 0, .int .i64 0, .int .i64 0, .int .i64 0, .int .i64 0]) ?_ 0 _ rfl; (with_reducible repeat (first | refine blk_drewN ?_ _ | refine blk_drew ?_ | refine blk_alloc ?_ _)); exact BK239.out) hb); have n3_ := Aside0.mk (below_step (by repeat (first | (with_reducible first | exact HB.out | apply below_alloc | apply pw_below_drewN | apply below_drew1 | refine below_set ?_ GE239.out) | exact HB.out)) hb); clear HO_7; clear BK239; clear HB; have HO_7 := n0_; have HO242 := n1_; have BK239 := n2_; have HB := n3_; clear n0_ n1_ n2_ n3_; clear hb ho12; obtain ⟨Ao13, co13, eo13⟩ := Kd.R_slice HO242.out; subst eo13))
      go_loopg [7, 41] k1 (fun kq v7 v41 w' => ∃ (x7_2 : List Int) (x41_2 : Int), v41 = .int .i64 x41_2 ∧ Aside0 (raster_edges.l1 kq a1 a2 x7_2 l0 (l0.length : Int) x17_1 y240 (y240.length : Int) x41_2 = some r) ∧ Aside0 (kq ≤ k1) ∧ Aside0 (Kd.R (Kd.int .i64) 2 w' w.heap.size (fun k_ => some k_ ≠ ((.slice Ao13 y240.length co13) : Value).ownBlock) v7 x7_2) ∧ Aside0 (Kd.R (Kd.int .i64) 2 w' w.heap.size (fun k_ => some k_ ≠ (v7 : Value).ownBlock) (.slice Ao13 y240.length co13) y240) ∧ Aside0 (w'.heap[gb239]? = some (.cells #[.int .i64 ((rd_T39 l0 x17_1).f0), .int .i64 ((rd_T39 l0 x17_1).f1), .int .i64 ((rd_T39 l0 x17_1).f2.f0), .int .i64 ((rd_T39 l0 x17_1).f2.f1), .int .i64 ((rd_T39 l0 x17_1).f2.f2), .int .i64 ((rd_T39 l0 x17_1).f2.f3), .int .i64 ((rd_T39 l0 x17_1).f3.f0), .int .i64 ((rd_T39 l0 x17_1).f3.f1), .int .i64 ((rd_T39 l0 x17_1).f3.f2), .int .i64 ((rd_T39 l0 x17_1).f3.f3), .int .i64 ((rd_T39 l0 x17_1).f4.f0), .int .i64 ((rd_T39 l0 x17_1).f4.f1), .int .i64 ((rd_T39 l0 x17_1).f4.f2), .int .i64 ((rd_T39 l0 x17_1).f4.f3), .int .i64 ((rd_T39 l0 x17_1).f5)] 39 (0, 0))) ∧ Aside0 (Below w.heap.size w w'))
      case atStart => exact ⟨(x7_1), (0), (by first | rfl | (simp; done) | (simp [*]; done)), H', ⟨Nat.le_refl _⟩, ⟨by (with_reducible repeat (first | apply Kd.R_alloc | apply Kd.R_drewN | apply Kd.R_drew)); exact Kd.R_mono HO_7.out (fun _ hk => hk.2)⟩, ⟨by (with_reducible repeat (first | apply Kd.R_alloc | apply Kd.R_drewN | apply Kd.R_drew)); exact Kd.R_mono HO242.out (fun _ hk => hk.2)⟩, ⟨by (with_reducible repeat (first | refine blk_drewN ?_ _ | refine blk_drew ?_ | refine blk_alloc ?_ _)); exact BK239.out⟩, ⟨by repeat (first | (with_reducible first | exact HB.out | apply below_alloc | apply pw_below_drewN | apply below_drew1 | refine below_set ?_ GE239.out) | exact HB.out)⟩⟩
      case round =>
       clear H'
       try clear p2
       try clear q2
       try clear hx2
       try clear c5
       try clear c6
       try clear c6b0
       try clear c7
       try clear c7b0
       try clear c8
       try clear c8b0
       try clear hcz10_0
       try clear hcz10_1
       try clear hcz10_10
       try clear hcz10_11
       try clear hcz10_12
       try clear hcz10_13
       try clear hcz10_14
       try clear hcz10_2
       try clear hcz10_3
       try clear hcz10_4
       try clear hcz10_5
       try clear hcz10_6
       try clear hcz10_7
       try clear hcz10_8
       try clear hcz10_9
       try clear hfz10_0
       try clear hfz10_1
       try clear hfz10_10
       try clear hfz10_11
       try clear hfz10_12
       try clear hfz10_13
       try clear hfz10_14
       try clear hfz10_2
       try clear hfz10_3
       try clear hfz10_4
       try clear hfz10_5
       try clear hfz10_6
       try clear hfz10_7
       try clear hfz10_8
       try clear hfz10_9
       try clear hx238_0
       try clear hx238_1
       try clear hx238_10
       try clear hx238_11
       try clear hx238_12
       try clear hx238_13
       try clear hx238_14
       try clear hx238_2
       try clear hx238_3
       try clear hx238_4
       try clear hx238_5
       try clear hx238_6
       try clear hx238_7
       try clear hx238_8
       try clear hx238_9
       try clear p2
       try clear p238
       try clear q238
       obtain ⟨x7_2, x41_2, rfl, HA, HK2, HO_7, HO_39, BK239, HB⟩ := hrel
       cases gk with
       | zero => exact absurd HA.out (by simp [raster_edges.l1])
       | succ k2 =>
        have H := HA.out
        clear HA
        simp only [raster_edges.l1] at H
        by_cases c14 : x41_2 < (y240.length : Int)
        ·rw [if_pos c14] at H
         have c14b0 : decide (x41_2 < (y240.length : Int)) = true := decide_eq_true c14
         clear c14
         by_cases c15 : 0 ≤ x41_2
         ·rw [if_pos c15] at H
          have c15b0 : decide (0 ≤ x41_2) = true := decide_eq_true c15
          clear c15
          by_cases c16 : x41_2 < (y240.length : Int)
          ·rw [if_pos c16] at H
           have c16b0 : decide (x41_2 < (y240.length : Int)) = true := decide_eq_true c16
           clear c16
           by_cases c17 : (rd y240 x41_2) > a1
           ·rw [if_pos c17] at H
            have c17b0 : decide (a1 < (rd y240 x41_2)) = true := decide_eq_true c17
            clear c17
            by_cases c18 : (rd y240 x41_2) < a2
            ·rw [if_pos c18] at H
             have c18b0 : decide ((rd y240 x41_2) < a2) = true := decide_eq_true c18
             clear c18
             by_cases c19 : x7_2.length < 17592186044416
             ·rw [if_pos c19] at H
              have LMc19 := Aside0.mk c19
              clear c19
              obtain ⟨y244, hy244⟩ : ∃ y_ : List Int, y_ = (x7_2 ++ [rd y240 x41_2]) := ⟨_, rfl⟩
              replace H : (raster_edges.l1 k2 a1 a2 y244 l0 (l0.length : Int) x17_1 y240 (y240.length : Int) (wrap64 (x41_2 + 1))) = some r := by first | (rw [hy244]; with_reducible exact H) | (have H2_ := (Option.bind_some _ _).symm.trans H; rw [hy244]; with_reducible exact H2_) | (have H2_ := (Option.bind_some _ _).symm.trans H; with_reducible exact H2_) | with_reducible exact H | (rw [hy244]; exact H) | exact H
              have Ny244 := Aside0.mk hy244
              clear hy244
              have H' := Aside0.mk H
              clear H
              have p243 : 0 ≤ (x41_2 : Int) := of_decide_eq_true (by first | (with_reducible assumption) | assumption)
              have q243 : x41_2 < (y240.length : Int) := of_decide_eq_true (by first | (with_reducible assumption) | assumption)
              obtain ⟨ad243, e243, hx243_0⟩ := Kd.at_int (Kd.R_reads' HO_39.out).2.2 x41_2 p243 q243
              cases e243
              replace p243 := eq_true p243
              replace q243 := eq_true q243
              go_wp2_with (first | ((with_reducible refine gate_builtin (b := .append) (xs := #[.tmp 53, .tmp 55]) rfl ?_); at_builtin; refine Kd.R_append (Kd.int .i64) (w0 := w) w.heap.size rfl (.tmp 53) (.tmp 55) 47 2 (.int .i64 0) 8 rfl Try.underlying47 info2 rfl (by decide) (by omega) u7 x7_2 (rd y240 x41_2) [.int .i64 (rd y240 x41_2)] (fun k_ => some k_ ≠ (.slice (some ad243) y240.length co13 : Value).ownBlock) (fun _ => False) rfl rfl ?aP (fun _ hk => hk.elim) ?aF ?aO ?aB ?aS ?aL ?_; (case aP => exact rfl); (case aB => exact (by repeat (first | (with_reducible first | exact HB.out | apply below_alloc | apply pw_below_drewN | apply below_drew1 | refine below_set ?_ GE239.out) | exact HB.out))); (case aF => exact (fun k_ hk => Kd.fresh' (Kd.R_lt (by (with_reducible repeat (first | apply Kd.R_alloc | apply Kd.R_drewN | apply Kd.R_drew)); exact HO_39.out)) k_ hk)); (case aO => exact (by (with_reducible repeat (first | apply Kd.R_alloc | apply Kd.R_drewN | apply Kd.R_drew)); exact HO_7.out)); (case aS => exact (below_size (by repeat (first | (with_reducible first | exact HB.out | apply below_alloc | apply pw_below_drewN | apply below_drew1 | refine below_set ?_ GE239.out) | exact HB.out)))); (case aL => have := LMc19.out; omega); intro v245 w20 ho hb hg hat; rw [← Ny244.out] at ho; have n0_ := Aside0.mk (Kd.R_after (ok := (fun _ => True)) (by (with_reducible repeat (first | apply Kd.R_alloc | apply Kd.R_drewN | apply Kd.R_drew)); exact Kd.R_mono HO_39.out (fun _ hk => ⟨trivial, hk⟩)) hg hat); have n1_ := Aside0.mk (blk_grown (g := gb239) (o := .cells #[.int .i64 ((rd_T39 l0 x17_1).f0), .int .i64 ((rd_T39 l0 x17_1).f1), .int .i64 ((rd_T39 l0 x17_1).f2.f0), .int .i64 ((rd_T39 l0 x17_1).f2.f1), .int .i64 ((rd_T39 l0 x17_1).f2.f2), .int .i64 ((rd_T39 l0 x17_1).f2.f3), .int .i64 ((rd_T39 l0 x17_1).f3.f0), .int .i64 ((rd_T39 l0 x17_1).f3.f1), .int .i64 ((rd_T39 l0 x17_1).f3.f2), .int .i64 ((rd_T39 l0 x17_1).f3.f3), .int .i64 ((rd_T39 l0 x17_1).f4.f0), .int .i64 ((rd_T39 l0 x17_1).f4.f1), .int .i64 ((rd_T39 l0 x17_1).f4.f2), .int .i64 ((rd_T39 l0 x17_1).f4.f3), .int .i64 ((rd_T39 l0 x17_1).f5)] 39 (0, 0)) (by (with_reducible repeat (first | refine blk_drewN ?_ _ | refine blk_drew ?_ | refine blk_alloc ?_ _)); exact BK239.out) hg (Kd.R_ne HO_7.out BK239.out (by decide))); have n2_ := Aside0.mk (hb); have n3_ := Aside0.mk (ho); clear HO_39; clear BK239; clear HB; clear HO_7; have HO_39 := n0_; have BK239 := n1_; have HB := n2_; have HO246 := n3_; clear n0_ n1_ n2_ n3_; clear ho hb hg hat))
              go_roundg k2
              case measure => have := HK1.out; have := HK2.out; omega
              case rel => exact ⟨(y244), (wrap64 (x41_2 + 1)), (by first | rfl | (simp; done) | (simp [*]; done)), H', ⟨by have := HK1.out; have := HK2.out; omega⟩, ⟨by (with_reducible repeat (first | apply Kd.R_alloc | apply Kd.R_drewN | apply Kd.R_drew)); exact HO246.out⟩, ⟨by (with_reducible repeat (first | apply Kd.R_alloc | apply Kd.R_drewN | apply Kd.R_drew)); exact Kd.R_mono HO_39.out (fun _ hk => hk.2)⟩, ⟨by (with_reducible repeat (first | refine blk_drewN ?_ _ | refine blk_drew ?_ | refine blk_alloc ?_ _)); exact BK239.out⟩, ⟨by repeat (first | (with_reducible first | exact HB.out | apply below_alloc | apply pw_below_drewN | apply below_drew1 | refine below_set ?_ GE239.out) | exact HB.out)⟩⟩
             ·rw [if_neg c19] at H
              exact absurd H (by simp)
            ·rw [if_neg c18] at H
             have c18b0 : decide ((rd y240 x41_2) < a2) = false := decide_eq_false c18
             clear c18
             have H' := Aside0.mk H
             clear H
             have p243 : 0 ≤ (x41_2 : Int) := of_decide_eq_true (by first | (with_reducible assumption) | assumption)
             have q243 : x41_2 < (y240.length : Int) := of_decide_eq_true (by first | (with_reducible assumption) | assumption)
             obtain ⟨ad243, e243, hx243_0⟩ := Kd.at_int (Kd.R_reads' HO_39.out).2.2 x41_2 p243 q243
             cases e243
             replace p243 := eq_true p243
             replace q243 := eq_true q243
             go_wp2
             go_roundg k2
             case measure => have := HK1.out; have := HK2.out; omega
             case rel => exact ⟨(x7_2), (wrap64 (x41_2 + 1)), (by first | rfl | (simp; done) | (simp [*]; done)), H', ⟨by have := HK1.out; have := HK2.out; omega⟩, ⟨by (with_reducible repeat (first | apply Kd.R_alloc | apply Kd.R_drewN | apply Kd.R_drew)); exact HO_7.out⟩, ⟨by (with_reducible repeat (first | apply Kd.R_alloc | apply Kd.R_drewN | apply Kd.R_drew)); exact HO_39.out⟩, ⟨by (with_reducible repeat (first | refine blk_drewN ?_ _ | refine blk_drew ?_ | refine blk_alloc ?_ _)); exact BK239.out⟩, ⟨by repeat (first | (with_reducible first | exact HB.out | apply below_alloc | apply pw_below_drewN | apply below_drew1 | refine below_set ?_ GE239.out) | exact HB.out)⟩⟩
           ·rw [if_neg c17] at H
            have c17b0 : decide (a1 < (rd y240 x41_2)) = false := decide_eq_false c17
            clear c17
            have H' := Aside0.mk H
            clear H
            have p243 : 0 ≤ (x41_2 : Int) := of_decide_eq_true (by first | (with_reducible assumption) | assumption)
            have q243 : x41_2 < (y240.length : Int) := of_decide_eq_true (by first | (with_reducible assumption) | assumption)
            obtain ⟨ad243, e243, hx243_0⟩ := Kd.at_int (Kd.R_reads' HO_39.out).2.2 x41_2 p243 q243
            cases e243
            replace p243 := eq_true p243
            replace q243 := eq_true q243
            go_wp2
            go_roundg k2
            case measure => have := HK1.out; have := HK2.out; omega
            case rel => exact ⟨(x7_2), (wrap64 (x41_2 + 1)), (by first | rfl | (simp; done) | (simp [*]; done)), H', ⟨by have := HK1.out; have := HK2.out; omega⟩, ⟨by (with_reducible repeat (first | apply Kd.R_alloc | apply Kd.R_drewN | apply Kd.R_drew)); exact HO_7.out⟩, ⟨by (with_reducible repeat (first | apply Kd.R_alloc | apply Kd.R_drewN | apply Kd.R_drew)); exact HO_39.out⟩, ⟨by (with_reducible repeat (first | refine blk_drewN ?_ _ | refine blk_drew ?_ | refine blk_alloc ?_ _)); exact BK239.out⟩, ⟨by repeat (first | (with_reducible first | exact HB.out | apply below_alloc | apply pw_below_drewN | apply below_drew1 | refine below_set ?_ GE239.out) | exact HB.out)⟩⟩
          ·rw [if_neg c16] at H
           exact absurd H (by simp)
         ·rw [if_neg c15] at H
          exact absurd H (by simp)
        ·rw [if_neg c14] at H
         have c14b0 : decide (x41_2 < (y240.length : Int)) = false := decide_eq_false c14
         clear c14
         have H' := Aside0.mk H
         clear H
         go_wp2
         go_roundg k2
         case measure => have := HK1.out; have := HK2.out; omega
         case rel => exact ⟨(x7_2), (wrap64 (x17_1 + 1)), (by first | rfl | (simp; done) | (simp [*]; done)), H', ⟨by have := HK1.out; have := HK2.out; omega⟩, ⟨by (with_reducible repeat (first | apply Kd.R_alloc | apply Kd.R_drewN | apply Kd.R_drew)); exact Kd.R_mono HO_7.out (fun _ hk => trivial)⟩, ⟨by repeat (first | (with_reducible first | exact HB.out | apply below_alloc | apply pw_below_drewN | apply below_drew1 | refine below_set ?_ GE239.out) | exact HB.out)⟩⟩
     ·rw [if_neg c8] at H
      exact absurd H (by simp)
    ·rw [if_neg c7] at H
     exact absurd H (by simp)
   ·rw [if_neg c6] at H
    have c6b0 : decide (x17_1 < (l0.length : Int)) = false := decide_eq_false c6
    clear c6
    obtain rfl := Option.some.inj H
    have A1 := Aside0.mk hne
    have A2 := Aside0.mk hs
    clear hne hs
    go_wp2_with (first | (go_at_call 62; refine (Go.Proofs.Ytppklhfiajjhmaa.EdgeWords.sort_own (base := w.heap.size) (Kd.own_of_R (by (with_reducible repeat (first | apply Kd.R_alloc | apply Kd.R_drewN | apply Kd.R_drew)); exact HO_7.out)) A1.out A2.out).mono ?_; rintro e ws ⟨rfl, hos, hgs⟩; have HOs := Aside0.mk hos; have HBs := Aside0.mk (Below.grown (B := w.heap.size) (a := w) (by repeat (first | (with_reducible first | exact HB.out | apply below_alloc | apply pw_below_drewN | apply below_drew1) | exact HB.out)) hgs (by have := HB.out.size; simpa using this) (own_base (Kd.own_of_R HO_7.out))); clear hos hgs) | (go_at_call 63; refine (Go.Proofs.Ytppklhfiajjhmaa.EdgeWords.compact_own (base := w.heap.size) (zs := x7_1.mergeSort fun x y => decide (x ≤ y)) (by rw [List.length_mergeSort]; exact HOs.out) (Go.Proofs.Ytppklhfiajjhmaa.EdgeWords.sort_ne A1.out) (by rw [List.length_mergeSort]; exact A2.out)).mono ?_; rintro e wc ⟨vc, rfl, _, hoc, hgc⟩; have HOc := Aside0.mk hoc; have HBc := Aside0.mk (Below.grown HBs.out hgc HBs.out.size (own_base HOs.out)); clear hoc hgc))
    go_ret
    exact ⟨_, by first | rfl | (simp [*, errW_none, errW_some] <;> rfl), Kd.R_of_own HOc.out (fun _ _ => trivial), HBc.out⟩

theorem raster_edges.l1_run (a1 a2 : Int) (x15 : List S39) (x16 x17 : Int) (l2 : List Int) : ∀ (l1 x7 : List Int) (K : Nat), (l1 ++ l2).length ≤ 1000 → x7.length + l2.length ≤ 4000000 →
  raster_edges.l1 (K + l2.length + 1) a1 a2 x7 x15 x16 x17 (l1 ++ l2) ((l1 ++ l2).length : Int) (l1.length : Int) = raster_edges.l0 K a1 a2 (x7 ++ l2.filter fun n => decide (a1 < n) && decide (n < a2)) x15 x16 (wrap64 (x17 + 1)) := by
 induction l2 with
 | nil =>
  intro l1 x7 K _ _
  simp only [raster_edges.l1]
  rw [if_neg (by simp)]
  simp
 | cons n l2 ih =>
  intro l1 x7 K h1 h2
  have e : K + (n :: l2).length + 1 = (K + l2.length + 1) + 1 := by simp; omega
  rw [e]
  have ih := fun (l1 x7 : List Int) => ih l1 x7 K
  generalize K + l2.length + 1 = M at ih ⊢
  simp only [raster_edges.l1]
  have hr : rd (l1 ++ n :: l2) (l1.length : Int) = n := by unfold rd; simp
  have hw : wrap64 ((l1.length : Int) + 1) = ((l1 ++ [n]).length : Int) := by simp at h1 ⊢; unfold wrap64; omega
  have ha : l1 ++ n :: l2 = (l1 ++ [n]) ++ l2 := by simp
  rw [if_pos (by simp; omega), if_pos (by omega), if_pos (by simp; omega), hr, hw]
  simp at h1 h2
  by_cases c1 : n > a1
  ·by_cases c2 : n < a2
   ·rw [if_pos c1, if_pos c2, if_pos (by omega), ha, ih (l1 ++ [n]) (x7 ++ [n]) (by simp; omega) (by simp; omega)]
    simp [c1, c2, show a1 < n from c1]
   ·rw [if_pos c1, if_neg c2, ha, ih (l1 ++ [n]) x7 (by simp; omega) (by omega)]
    simp [c2]
  ·rw [if_neg c1, ha, ih (l1 ++ [n]) x7 (by simp; omega) (by omega)]
   simp [show ¬ a1 < n from c1]
theorem raster_edges.l0_run (a1 a2 : Int) (l2 : List S39) : ∀ (l1 : List S39) (x7 : List Int), (l1 ++ l2).length ≤ 1000 → x7.length + 6 * l2.length ≤ 4000000 →
  raster_edges.l0 (8 * l2.length + 1) a1 a2 x7 (l1 ++ l2) ((l1 ++ l2).length : Int) (l1.length : Int) = some (x7 ++ l2.flatMap fun x => (places x).filter fun n => decide (a1 < n) && decide (n < a2)) := by
 induction l2 with
 | nil =>
  intro l1 x7 _ _
  simp only [raster_edges.l0]
  rw [if_neg (by simp)]
  simp
 | cons x l2 ih =>
  intro l1 x7 h1 h2
  have e : 8 * (x :: l2).length + 1 = ((8 * l2.length + 1) + (places x).length + 1) + 1 := by simp [places]; omega
  rw [e]
  have h3 := raster_edges.l1_run a1 a2 (l1 ++ x :: l2) ((l1 ++ x :: l2).length : Int) (l1.length : Int) (places x) [] x7 (8 * l2.length + 1) (by simp [places]) (by simp [places] at h2 ⊢; omega)
  generalize (8 * l2.length + 1) + (places x).length + 1 = M at h3 ⊢
  simp only [raster_edges.l0]
  have hr : rd_T39 (l1 ++ x :: l2) (l1.length : Int) = x := by unfold rd_T39; simp
  have hw : wrap64 ((l1.length : Int) + 1) = ((l1 ++ [x]).length : Int) := by simp at h1 ⊢; unfold wrap64; omega
  have ha : l1 ++ x :: l2 = (l1 ++ [x]) ++ l2 := by simp
  rw [if_pos (by simp; omega), if_pos (by omega), if_pos (by simp; omega), hr]
  simp only [Option.bind_some]
  simp only [List.nil_append, List.length_nil] at h3
  have hf : ((places x).filter fun n => decide (a1 < n) && decide (n < a2)).length ≤ 6 := Nat.le_trans (List.length_filter_le _ _) (by simp [places])
  simp at h1 h2
  refine (Eq.trans ?_ h3).trans ?_
  ·rfl
  ·rw [hw, ha, ih (l1 ++ [x]) _ (by simp; omega) (by rw [List.length_append]; omega)]
   simp
theorem raster_edges.raw_len (l : List S39) (a1 a2 : Int) : (raster_edges.raw l a1 a2).length ≤ 6 * l.length + 2 := by
 unfold raster_edges.raw
 have : (l.flatMap fun x => (places x).filter fun n => decide (a1 < n) && decide (n < a2)).length ≤ 6 * l.length := by
  induction l with
  | nil => simp
  | cons x l ih =>
   rw [List.flatMap_cons, List.length_append, List.length_cons]
   have hf : ((places x).filter fun n => decide (a1 < n) && decide (n < a2)).length ≤ 6 := Nat.le_trans (List.length_filter_le _ _) (by simp [places])
   omega
 rw [List.length_append]
 show 2 + _ ≤ _
 omega
theorem raster_edges.calls (A0 : Option Addr) (c0 : Nat) (l0 : List (S39)) (a1 : Int) (a2 : Int) (r : List Int) (w : World) (hr0 : Kd.C k39 w A0 l0.length l0) (hc0 : l0.length ≤ c0) (h : raster_edges.f l0 a1 a2 = some r) :
  Calls Try.prog 50 #[.slice A0 l0.length c0, .int .i64 a1, .int .i64 a2] w fun e w' => ∃ v0_ : Value, e = .returned (v0_) ∧ Kd.R (Kd.int .i64) 2 w' w.heap.size (fun _ => True) v0_ r ∧ Below w.heap.size w w' := by
 unfold raster_edges.f at h
 by_cases hl : l0.length ≤ 1000
 ·rw [if_pos hl] at h
  obtain rfl := Option.some.inj h
  have h2 := raster_edges.raw_len l0 a1 a2
  exact raster_edges.walk (8 * l0.length + 1) A0 c0 l0 a1 a2 (raster_edges.raw l0 a1 a2) w hr0 hc0 (raster_edges.l0_run a1 a2 l0 [] [a1, a2] (by simpa using hl) (by simp; omega)) (by simp [raster_edges.raw]) (by omega)
 ·rw [if_neg hl] at h
  cases h


/-! ### rect_Holds: function 71 -/
def rect_Holds.f (a0_0 : Int) (a0_1 : Int) (a0_2 : Int) (a0_3 : Int) (a1 : Int) (a2 : Int) : Option (Bool) := if a1 ≥ a0_0 then (if a1 < a0_2 then (if a2 ≥ a0_1 then (some (decide (a2 < a0_3))) else (some false)) else (some false)) else (some false)
set_option maxHeartbeats 8000000 in
set_option maxRecDepth 100000 in
theorem rect_Holds.calls (a0_0 : Int) (a0_1 : Int) (a0_2 : Int) (a0_3 : Int) (a1 : Int) (a2 : Int) (r : Bool) (w : World) (h : rect_Holds.f a0_0 a0_1 a0_2 a0_3 a1 a2 = some r) :
  Calls Try.prog 71 #[.agg #[.int .i64 a0_0, .int .i64 a0_1, .int .i64 a0_2, .int .i64 a0_3], .int .i64 a1, .int .i64 a2] w fun e w' => e = .returned (.bool r) ∧ Below w.heap.size w w' := by
 have hu37 := Try.underlying37
 have HB := Aside0.mk (Below.refl w.heap.size w)
 have H : (if a1 ≥ a0_0 then (if a1 < a0_2 then (if a2 ≥ a0_1 then (some (decide (a2 < a0_3))) else (some false)) else (some false)) else (some false)) = some r := h
 clear h
 by_cases c4 : a1 ≥ a0_0
 ·rw [if_pos c4] at H
  have c4b0 : decide (a0_0 ≤ a1) = true := decide_eq_true c4
  clear c4
  by_cases c5 : a1 < a0_2
  ·rw [if_pos c5] at H
   have c5b0 : decide (a1 < a0_2) = true := decide_eq_true c5
   clear c5
   by_cases c6 : a2 ≥ a0_1
   ·rw [if_pos c6] at H
    have c6b0 : decide (a0_1 ≤ a2) = true := decide_eq_true c6
    clear c6
    obtain rfl := Option.some.inj H
    go_enter Try.func71, Try.ntmps71
    go_wp2_with (first | ((with_reducible refine gate_dst (N := 3) rfl ?_); refine box_event ?hg (N := 3) ?hd (cs := #[.int .i64 a0_0, .int .i64 a0_1, .int .i64 a0_2, .int .i64 a0_3]) (t := 37) ?hr ?_; (case hd => rfl); (case hg => rfl); (case hr => first | (go_simp; done) | (go_simp; rfl)); intro gb101 hg w7 hbox hb; have n0_ := Aside0.mk (below_step (by repeat (first | (with_reducible first | exact HB.out | apply below_alloc | apply pw_below_drewN | apply below_drew1) | exact HB.out)) hb); have n1_ := Aside0.mk (hbox); have n2_ := Aside0.mk ((by rw [hg]; exact (below_size (by repeat (first | (with_reducible first | exact HB.out | apply below_alloc | apply pw_below_drewN | apply below_drew1) | exact HB.out))) : w.heap.size ≤ gb101)); have n3_ := Aside0.mk ((by rw [hg]; exact (below_size (by repeat (first | (with_reducible first | exact HB.out | apply below_alloc | apply pw_below_drewN | apply below_drew1) | exact HB.out))) : w.heap.size ≤ gb101)); clear HB; have HB := n0_; have BK101 := n1_; have GW101 := n2_; have GE101 := n3_; clear n0_ n1_ n2_ n3_; clear hb hbox hg; have hcz8_0 : w7.cell? ⟨gb101, 0, none⟩ = some (.int .i64 a0_0) := (blk_cell BK101.out 0).trans rfl; have hcz8_1 : w7.cell? ⟨gb101, 1, none⟩ = some (.int .i64 a0_1) := (blk_cell BK101.out 1).trans rfl; have hcz8_2 : w7.cell? ⟨gb101, 2, none⟩ = some (.int .i64 a0_2) := (blk_cell BK101.out 2).trans rfl; have hcz8_3 : w7.cell? ⟨gb101, 3, none⟩ = some (.int .i64 a0_3) := (blk_cell BK101.out 3).trans rfl; have hfz8_0 := blk_frozen BK101.out 0; have hfz8_1 := blk_frozen BK101.out 1; have hfz8_2 := blk_frozen BK101.out 2; have hfz8_3 := blk_frozen BK101.out 3))
    go_ret
    exact ⟨by first | rfl | (simp [errW_none, errW_some] <;> rfl) | (simp [*, errW_none, errW_some] <;> rfl), by repeat (first | (with_reducible first | exact HB.out | apply below_alloc | apply pw_below_drewN | apply below_drew1 | refine below_set ?_ GE101.out) | exact HB.out)⟩
   ·rw [if_neg c6] at H
    have c6b0 : decide (a0_1 ≤ a2) = false := decide_eq_false c6
    clear c6
    obtain rfl := Option.some.inj H
    go_enter Try.func71, Try.ntmps71
    go_wp2_with (first | ((with_reducible refine gate_dst (N := 3) rfl ?_); refine box_event ?hg (N := 3) ?hd (cs := #[.int .i64 a0_0, .int .i64 a0_1, .int .i64 a0_2, .int .i64 a0_3]) (t := 37) ?hr ?_; (case hd => rfl); (case hg => rfl); (case hr => first | (go_simp; done) | (go_simp; rfl)); intro gb101 hg w9 hbox hb; have n0_ := Aside0.mk (below_step (by repeat (first | (with_reducible first | exact HB.out | apply below_alloc | apply pw_below_drewN | apply below_drew1) | exact HB.out)) hb); have n1_ := Aside0.mk (hbox); have n2_ := Aside0.mk ((by rw [hg]; exact (below_size (by repeat (first | (with_reducible first | exact HB.out | apply below_alloc | apply pw_below_drewN | apply below_drew1) | exact HB.out))) : w.heap.size ≤ gb101)); have n3_ := Aside0.mk ((by rw [hg]; exact (below_size (by repeat (first | (with_reducible first | exact HB.out | apply below_alloc | apply pw_below_drewN | apply below_drew1) | exact HB.out))) : w.heap.size ≤ gb101)); clear HB; have HB := n0_; have BK101 := n1_; have GW101 := n2_; have GE101 := n3_; clear n0_ n1_ n2_ n3_; clear hb hbox hg; have hcz10_0 : w9.cell? ⟨gb101, 0, none⟩ = some (.int .i64 a0_0) := (blk_cell BK101.out 0).trans rfl; have hcz10_1 : w9.cell? ⟨gb101, 1, none⟩ = some (.int .i64 a0_1) := (blk_cell BK101.out 1).trans rfl; have hcz10_2 : w9.cell? ⟨gb101, 2, none⟩ = some (.int .i64 a0_2) := (blk_cell BK101.out 2).trans rfl; have hcz10_3 : w9.cell? ⟨gb101, 3, none⟩ = some (.int .i64 a0_3) := (blk_cell BK101.out 3).trans rfl; have hfz10_0 := blk_frozen BK101.out 0; have hfz10_1 := blk_frozen BK101.out 1; have hfz10_2 := blk_frozen BK101.out 2; have hfz10_3 := blk_frozen BK101.out 3))
    go_ret
    exact ⟨by first | rfl | (simp [errW_none, errW_some] <;> rfl) | (simp [*, errW_none, errW_some] <;> rfl), by repeat (first | (with_reducible first | exact HB.out | apply below_alloc | apply pw_below_drewN | apply below_drew1 | refine below_set ?_ GE101.out) | exact HB.out)⟩
  ·rw [if_neg c5] at H
   have c5b0 : decide (a1 < a0_2) = false := decide_eq_false c5
   clear c5
   obtain rfl := Option.some.inj H
   go_enter Try.func71, Try.ntmps71
   go_wp2_with (first | ((with_reducible refine gate_dst (N := 3) rfl ?_); refine box_event ?hg (N := 3) ?hd (cs := #[.int .i64 a0_0, .int .i64 a0_1, .int .i64 a0_2, .int .i64 a0_3]) (t := 37) ?hr ?_; (case hd => rfl); (case hg => rfl); (case hr => first | (go_simp; done) | (go_simp; rfl)); intro gb101 hg w11 hbox hb; have n0_ := Aside0.mk (below_step (by repeat (first | (with_reducible first | exact HB.out | apply below_alloc | apply pw_below_drewN | apply below_drew1) | exact HB.out)) hb); have n1_ := Aside0.mk (hbox); have n2_ := Aside0.mk ((by rw [hg]; exact (below_size (by repeat (first | (with_reducible first | exact HB.out | apply below_alloc | apply pw_below_drewN | apply below_drew1) | exact HB.out))) : w.heap.size ≤ gb101)); have n3_ := Aside0.mk ((by rw [hg]; exact (below_size (by repeat (first | (with_reducible first | exact HB.out | apply below_alloc | apply pw_below_drewN | apply below_drew1) | exact HB.out))) : w.heap.size ≤ gb101)); clear HB; have HB := n0_; have BK101 := n1_; have GW101 := n2_; have GE101 := n3_; clear n0_ n1_ n2_ n3_; clear hb hbox hg; have hcz12_0 : w11.cell? ⟨gb101, 0, none⟩ = some (.int .i64 a0_0) := (blk_cell BK101.out 0).trans rfl; have hcz12_1 : w11.cell? ⟨gb101, 1, none⟩ = some (.int .i64 a0_1) := (blk_cell BK101.out 1).trans rfl; have hcz12_2 : w11.cell? ⟨gb101, 2, none⟩ = some (.int .i64 a0_2) := (blk_cell BK101.out 2).trans rfl; have hcz12_3 : w11.cell? ⟨gb101, 3, none⟩ = some (.int .i64 a0_3) := (blk_cell BK101.out 3).trans rfl; have hfz12_0 := blk_frozen BK101.out 0; have hfz12_1 := blk_frozen BK101.out 1; have hfz12_2 := blk_frozen BK101.out 2; have hfz12_3 := blk_frozen BK101.out 3))
   go_ret
   exact ⟨by first | rfl | (simp [errW_none, errW_some] <;> rfl) | (simp [*, errW_none, errW_some] <;> rfl), by repeat (first | (with_reducible first | exact HB.out | apply below_alloc | apply pw_below_drewN | apply below_drew1 | refine below_set ?_ GE101.out) | exact HB.out)⟩
 ·rw [if_neg c4] at H
  have c4b0 : decide (a0_0 ≤ a1) = false := decide_eq_false c4
  clear c4
  obtain rfl := Option.some.inj H
  go_enter Try.func71, Try.ntmps71
  go_wp2_with (first | ((with_reducible refine gate_dst (N := 3) rfl ?_); refine box_event ?hg (N := 3) ?hd (cs := #[.int .i64 a0_0, .int .i64 a0_1, .int .i64 a0_2, .int .i64 a0_3]) (t := 37) ?hr ?_; (case hd => rfl); (case hg => rfl); (case hr => first | (go_simp; done) | (go_simp; rfl)); intro gb101 hg w13 hbox hb; have n0_ := Aside0.mk (below_step (by repeat (first | (with_reducible first | exact HB.out | apply below_alloc | apply pw_below_drewN | apply below_drew1) | exact HB.out)) hb); have n1_ := Aside0.mk (hbox); have n2_ := Aside0.mk ((by rw [hg]; exact (below_size (by repeat (first | (with_reducible first | exact HB.out | apply below_alloc | apply pw_below_drewN | apply below_drew1) | exact HB.out))) : w.heap.size ≤ gb101)); have n3_ := Aside0.mk ((by rw [hg]; exact (below_size (by repeat (first | (with_reducible first | exact HB.out | apply below_alloc | apply pw_below_drewN | apply below_drew1) | exact HB.out))) : w.heap.size ≤ gb101)); clear HB; have HB := n0_; have BK101 := n1_; have GW101 := n2_; have GE101 := n3_; clear n0_ n1_ n2_ n3_; clear hb hbox hg; have hcz14_0 : w13.cell? ⟨gb101, 0, none⟩ = some (.int .i64 a0_0) := (blk_cell BK101.out 0).trans rfl; have hcz14_1 : w13.cell? ⟨gb101, 1, none⟩ = some (.int .i64 a0_1) := (blk_cell BK101.out 1).trans rfl; have hcz14_2 : w13.cell? ⟨gb101, 2, none⟩ = some (.int .i64 a0_2) := (blk_cell BK101.out 2).trans rfl; have hcz14_3 : w13.cell? ⟨gb101, 3, none⟩ = some (.int .i64 a0_3) := (blk_cell BK101.out 3).trans rfl; have hfz14_0 := blk_frozen BK101.out 0; have hfz14_1 := blk_frozen BK101.out 1; have hfz14_2 := blk_frozen BK101.out 2; have hfz14_3 := blk_frozen BK101.out 3))
  go_ret
  exact ⟨by first | rfl | (simp [errW_none, errW_some] <;> rfl) | (simp [*, errW_none, errW_some] <;> rfl), by repeat (first | (with_reducible first | exact HB.out | apply below_alloc | apply pw_below_drewN | apply below_drew1 | refine below_set ?_ GE101.out) | exact HB.out)⟩

/-! ### owner_Shows: function 64 -/
def owner_Shows.f (a0_0 : Int) (a0_1 : Int) (a0_2 : Int) (a0_3 : Int) (a0_4 : Int) (a0_5 : Int) (a0_6 : Int) (a0_7 : Int) (a0_8 : Int) (a0_9 : Int) (a0_10 : Int) (a0_11 : Int) (a0_12 : Int) (a0_13 : Int) (a0_14 : Int) (a1 : Int) (a2 : Int) : Option (Bool) := (rect_Holds.f a0_2 a0_3 a0_4 a0_5 a1 a2).bind fun t103 => (if t103 = true then ((rect_Holds.f a0_10 a0_11 a0_12 a0_13 a1 a2).bind fun t104 => (if t104 = true then (if a0_1 = 1 then ((rect_Holds.f a0_6 a0_7 a0_8 a0_9 a1 a2).bind fun t105 => (some (!t105))) else (some true)) else (some false))) else (some false))
set_option maxHeartbeats 8000000 in
set_option maxRecDepth 100000 in
theorem owner_Shows.calls (a0_0 : Int) (a0_1 : Int) (a0_2 : Int) (a0_3 : Int) (a0_4 : Int) (a0_5 : Int) (a0_6 : Int) (a0_7 : Int) (a0_8 : Int) (a0_9 : Int) (a0_10 : Int) (a0_11 : Int) (a0_12 : Int) (a0_13 : Int) (a0_14 : Int) (a1 : Int) (a2 : Int) (r : Bool) (w : World) (h : owner_Shows.f a0_0 a0_1 a0_2 a0_3 a0_4 a0_5 a0_6 a0_7 a0_8 a0_9 a0_10 a0_11 a0_12 a0_13 a0_14 a1 a2 = some r) :
  Calls Try.prog 64 #[.agg #[.int .i64 a0_0, .int .i64 a0_1, .int .i64 a0_2, .int .i64 a0_3, .int .i64 a0_4, .int .i64 a0_5, .int .i64 a0_6, .int .i64 a0_7, .int .i64 a0_8, .int .i64 a0_9, .int .i64 a0_10, .int .i64 a0_11, .int .i64 a0_12, .int .i64 a0_13, .int .i64 a0_14], .int .i64 a1, .int .i64 a2] w fun e w' => e = .returned (.bool r) ∧ Below w.heap.size w w' := by
 have hu39 := Try.underlying39
 have hu37 := Try.underlying37
 have HB := Aside0.mk (Below.refl w.heap.size w)
 have H : ((rect_Holds.f a0_2 a0_3 a0_4 a0_5 a1 a2).bind fun t103 => (if t103 = true then ((rect_Holds.f a0_10 a0_11 a0_12 a0_13 a1 a2).bind fun t104 => (if t104 = true then (if a0_1 = 1 then ((rect_Holds.f a0_6 a0_7 a0_8 a0_9 a1 a2).bind fun t105 => (some (!t105))) else (some true)) else (some false))) else (some false))) = some r := h
 clear h
 replace H := Option.bind_eq_some_iff.mp H
 obtain ⟨t103, A40, H⟩ := H
 replace H : (if t103 = true then ((rect_Holds.f a0_10 a0_11 a0_12 a0_13 a1 a2).bind fun t104 => (if t104 = true then (if a0_1 = 1 then ((rect_Holds.f a0_6 a0_7 a0_8 a0_9 a1 a2).bind fun t105 => (some (!t105))) else (some true)) else (some false))) else (some false)) = some r := H
 have A4 := Aside0.mk A40
 clear A40
 by_cases c5 : t103 = true
 ·subst c5
  have H1 : ((rect_Holds.f a0_10 a0_11 a0_12 a0_13 a1 a2).bind fun t104 => (if t104 = true then (if a0_1 = 1 then ((rect_Holds.f a0_6 a0_7 a0_8 a0_9 a1 a2).bind fun t105 => (some (!t105))) else (some true)) else (some false))) = some r := by rw [if_pos rfl] at H; exact H
  clear H
  have H := H1
  clear H1
  replace H := Option.bind_eq_some_iff.mp H
  obtain ⟨t104, A60, H⟩ := H
  replace H : (if t104 = true then (if a0_1 = 1 then ((rect_Holds.f a0_6 a0_7 a0_8 a0_9 a1 a2).bind fun t105 => (some (!t105))) else (some true)) else (some false)) = some r := H
  have A6 := Aside0.mk A60
  clear A60
  by_cases c7 : t104 = true
  ·subst c7
   have H1 : (if a0_1 = 1 then ((rect_Holds.f a0_6 a0_7 a0_8 a0_9 a1 a2).bind fun t105 => (some (!t105))) else (some true)) = some r := by rw [if_pos rfl] at H; exact H
   clear H
   have H := H1
   clear H1
   by_cases c8 : a0_1 = 1
   ·rw [if_pos c8] at H
    have c8b0 : (a0_1 == 1) = true := beq_iff_eq.mpr c8
    have c8b1 : (a0_1 != 1) = false := bne_eq_false_iff_eq.mpr c8
    clear c8
    replace H := Option.bind_eq_some_iff.mp H
    obtain ⟨t105, A90, H⟩ := H
    replace H : (some (!t105)) = some r := H
    have A9 := Aside0.mk A90
    clear A90
    obtain rfl := Option.some.inj H
    go_enter Try.func64, Try.ntmps64
    go_wp2_with (first | ((with_reducible refine gate_dst (N := 3) rfl ?_); refine box_event ?hg (N := 3) ?hd (cs := #[.int .i64 a0_0, .int .i64 a0_1, .int .i64 a0_2, .int .i64 a0_3, .int .i64 a0_4, .int .i64 a0_5, .int .i64 a0_6, .int .i64 a0_7, .int .i64 a0_8, .int .i64 a0_9, .int .i64 a0_10, .int .i64 a0_11, .int .i64 a0_12, .int .i64 a0_13, .int .i64 a0_14]) (t := 39) ?hr ?_; (case hd => rfl); (case hg => rfl); (case hr => first | (go_simp; done) | (go_simp; rfl)); intro gb102 hg w10 hbox hb; have n0_ := Aside0.mk (below_step (by repeat (first | (with_reducible first | exact HB.out | apply below_alloc | apply pw_below_drewN | apply below_drew1) | exact HB.out)) hb); have n1_ := Aside0.mk (hbox); have n2_ := Aside0.mk ((by rw [hg]; exact (below_size (by repeat (first | (with_reducible first | exact HB.out | apply below_alloc | apply pw_below_drewN | apply below_drew1) | exact HB.out))) : w.heap.size ≤ gb102)); have n3_ := Aside0.mk ((by rw [hg]; exact (below_size (by repeat (first | (with_reducible first | exact HB.out | apply below_alloc | apply pw_below_drewN | apply below_drew1) | exact HB.out))) : w.heap.size ≤ gb102)); clear HB; have HB := n0_; have BK102 := n1_; have GW102 := n2_; have GE102 := n3_; clear n0_ n1_ n2_ n3_; clear hb hbox hg; have hcz11_0 : w10.cell? ⟨gb102, 0, none⟩ = some (.int .i64 a0_0) := (blk_cell BK102.out 0).trans rfl; have hcz11_1 : w10.cell? ⟨gb102, 1, none⟩ = some (.int .i64 a0_1) := (blk_cell BK102.out 1).trans rfl; have hcz11_2 : w10.cell? ⟨gb102, 2, none⟩ = some (.int .i64 a0_2) := (blk_cell BK102.out 2).trans rfl; have hcz11_3 : w10.cell? ⟨gb102, 3, none⟩ = some (.int .i64 a0_3) := (blk_cell BK102.out 3).trans rfl; have hcz11_4 : w10.cell? ⟨gb102, 4, none⟩ = some (.int .i64 a0_4) := (blk_cell BK102.out 4).trans rfl; have hcz11_5 : w10.cell? ⟨gb102, 5, none⟩ = some (.int .i64 a0_5) := (blk_cell BK102.out 5).trans rfl; have hcz11_6 : w10.cell? ⟨gb102, 6, none⟩ = some (.int .i64 a0_6) := (blk_cell BK102.out 6).trans rfl; have hcz11_7 : w10.cell? ⟨gb102, 7, none⟩ = some (.int .i64 a0_7) := (blk_cell BK102.out 7).trans rfl; have hcz11_8 : w10.cell? ⟨gb102, 8, none⟩ = some (.int .i64 a0_8) := (blk_cell BK102.out 8).trans rfl; have hcz11_9 : w10.cell? ⟨gb102, 9, none⟩ = some (.int .i64 a0_9) := (blk_cell BK102.out 9).trans rfl; have hcz11_10 : w10.cell? ⟨gb102, 10, none⟩ = some (.int .i64 a0_10) := (blk_cell BK102.out 10).trans rfl; have hcz11_11 : w10.cell? ⟨gb102, 11, none⟩ = some (.int .i64 a0_11) := (blk_cell BK102.out 11).trans rfl; have hcz11_12 : w10.cell? ⟨gb102, 12, none⟩ = some (.int .i64 a0_12) := (blk_cell BK102.out 12).trans rfl; have hcz11_13 : w10.cell? ⟨gb102, 13, none⟩ = some (.int .i64 a0_13) := (blk_cell BK102.out 13).trans rfl; have hcz11_14 : w10.cell? ⟨gb102, 14, none⟩ = some (.int .i64 a0_14) := (blk_cell BK102.out 14).trans rfl; have hfz11_0 := blk_frozen BK102.out 0; have hfz11_1 := blk_frozen BK102.out 1; have hfz11_2 := blk_frozen BK102.out 2; have hfz11_3 := blk_frozen BK102.out 3; have hfz11_4 := blk_frozen BK102.out 4; have hfz11_5 := blk_frozen BK102.out 5; have hfz11_6 := blk_frozen BK102.out 6; have hfz11_7 := blk_frozen BK102.out 7; have hfz11_8 := blk_frozen BK102.out 8; have hfz11_9 := blk_frozen BK102.out 9; have hfz11_10 := blk_frozen BK102.out 10; have hfz11_11 := blk_frozen BK102.out 11; have hfz11_12 := blk_frozen BK102.out 12; have hfz11_13 := blk_frozen BK102.out 13; have hfz11_14 := blk_frozen BK102.out 14) | ((with_reducible refine gate_callee (f := 71) rfl ?_); refine goesL_ (some 11) rfl rfl Try.func71 (by kernel_rfl) rfl #[.agg #[.int .i64 a0_2, .int .i64 a0_3, .int .i64 a0_4, .int .i64 a0_5], .int .i64 a1, .int .i64 a2] rfl (by (try simp only [List.map_toArray, List.map_cons, List.map_nil]); first | done | rfl | (simp only [List.length_drop, List.length_take]; rfl)) ?_; (with_reducible refine (rect_Holds.calls a0_2 a0_3 a0_4 a0_5 a1 a2 true _ A4.out).mono ?_); rintro e w12 ⟨rfl, hb⟩; refine ⟨_, rfl, ?_⟩; have n0_ := Aside0.mk (blk_below (g := gb102) (o := .cells #[.int .i64 a0_0, .int .i64 a0_1, .int .i64 a0_2, .int .i64 a0_3, .int .i64 a0_4, .int .i64 a0_5, .int .i64 a0_6, .int .i64 a0_7, .int .i64 a0_8, .int .i64 a0_9, .int .i64 a0_10, .int .i64 a0_11, .int .i64 a0_12, .int .i64 a0_13, .int .i64 a0_14] 39 (0, 0)) (by (with_reducible repeat (first | refine blk_drewN ?_ _ | refine blk_drew ?_ | refine blk_alloc ?_ _)); exact BK102.out) hb); have n1_ := Aside0.mk (below_step (by repeat (first | (with_reducible first | exact HB.out | apply below_alloc | apply pw_below_drewN | apply below_drew1 | refine below_set ?_ GE102.out) | exact HB.out)) hb); clear BK102; clear HB; have BK102 := n0_; have HB := n1_; clear n0_ n1_; (try clear hb); (try clear hb2); (try clear hk); (try clear hi); have hcz13_0 : w12.cell? ⟨gb102, 0, none⟩ = some (.int .i64 a0_0) := (blk_cell BK102.out 0).trans rfl; have hcz13_1 : w12.cell? ⟨gb102, 1, none⟩ = some (.int .i64 a0_1) := (blk_cell BK102.out 1).trans rfl; have hcz13_2 : w12.cell? ⟨gb102, 2, none⟩ = some (.int .i64 a0_2) := (blk_cell BK102.out 2).trans rfl; have hcz13_3 : w12.cell? ⟨gb102, 3, none⟩ = some (.int .i64 a0_3) := (blk_cell BK102.out 3).trans rfl; have hcz13_4 : w12.cell? ⟨gb102, 4, none⟩ = some (.int .i64 a0_4) := (blk_cell BK102.out 4).trans rfl; have hcz13_5 : w12.cell? ⟨gb102, 5, none⟩ = some (.int .i64 a0_5) := (blk_cell BK102.out 5).trans rfl; have hcz13_6 : w12.cell? ⟨gb102, 6, none⟩ = some (.int .i64 a0_6) := (blk_cell BK102.out 6).trans rfl; have hcz13_7 : w12.cell? ⟨gb102, 7, none⟩ = some (.int .i64 a0_7) := (blk_cell BK102.out 7).trans rfl; have hcz13_8 : w12.cell? ⟨gb102, 8, none⟩ = some (.int .i64 a0_8) := (blk_cell BK102.out 8).trans rfl; have hcz13_9 : w12.cell? ⟨gb102, 9, none⟩ = some (.int .i64 a0_9) := (blk_cell BK102.out 9).trans rfl; have hcz13_10 : w12.cell? ⟨gb102, 10, none⟩ = some (.int .i64 a0_10) := (blk_cell BK102.out 10).trans rfl; have hcz13_11 : w12.cell? ⟨gb102, 11, none⟩ = some (.int .i64 a0_11) := (blk_cell BK102.out 11).trans rfl; have hcz13_12 : w12.cell? ⟨gb102, 12, none⟩ = some (.int .i64 a0_12) := (blk_cell BK102.out 12).trans rfl; have hcz13_13 : w12.cell? ⟨gb102, 13, none⟩ = some (.int .i64 a0_13) := (blk_cell BK102.out 13).trans rfl; have hcz13_14 : w12.cell? ⟨gb102, 14, none⟩ = some (.int .i64 a0_14) := (blk_cell BK102.out 14).trans rfl; have hfz13_0 := blk_frozen BK102.out 0; have hfz13_1 := blk_frozen BK102.out 1; have hfz13_2 := blk_frozen BK102.out 2; have hfz13_3 := blk_frozen BK102.out 3; have hfz13_4 := blk_frozen BK102.out 4; have hfz13_5 := blk_frozen BK102.out 5; have hfz13_6 := blk_frozen BK102.out 6; have hfz13_7 := blk_frozen BK102.out 7; have hfz13_8 := blk_frozen BK102.out 8; have hfz13_9 := blk_frozen BK102.out 9; have hfz13_10 := blk_frozen BK102.out 10; have hfz13_11 := blk_frozen BK102.out 11; have hfz13_12 := blk_frozen BK102.out 12; have hfz13_13 := blk_frozen BK102.out 13; have hfz13_14 := blk_frozen BK102.out 14) | (go_at_call 71; (with_reducible refine (rect_Holds.calls a0_10 a0_11 a0_12 a0_13 a1 a2 true _ A6.out).mono ?_); rintro e w14 ⟨rfl, hb⟩; have n0_ := Aside0.mk (blk_below (g := gb102) (o := .cells #[.int .i64 a0_0, .int .i64 a0_1, .int .i64 a0_2, .int .i64 a0_3, .int .i64 a0_4, .int .i64 a0_5, .int .i64 a0_6, .int .i64 a0_7, .int .i64 a0_8, .int .i64 a0_9, .int .i64 a0_10, .int .i64 a0_11, .int .i64 a0_12, .int .i64 a0_13, .int .i64 a0_14] 39 (0, 0)) (by (with_reducible repeat (first | refine blk_drewN ?_ _ | refine blk_drew ?_ | refine blk_alloc ?_ _)); exact BK102.out) hb); have n1_ := Aside0.mk (below_step (by repeat (first | (with_reducible first | exact HB.out | apply below_alloc | apply pw_below_drewN | apply below_drew1 | refine below_set ?_ GE102.out) | exact HB.out)) hb); clear BK102; clear HB; have BK102 := n0_; have HB := n1_; clear n0_ n1_; (try clear hb); (try clear hb2); (try clear hk); (try clear hi); have hcz15_0 : w14.cell? ⟨gb102, 0, none⟩ = some (.int .i64 a0_0) := (blk_cell BK102.out 0).trans rfl; have hcz15_1 : w14.cell? ⟨gb102, 1, none⟩ = some (.int .i64 a0_1) := (blk_cell BK102.out 1).trans rfl; have hcz15_2 : w14.cell? ⟨gb102, 2, none⟩ = some (.int .i64 a0_2) := (blk_cell BK102.out 2).trans rfl; have hcz15_3 : w14.cell? ⟨gb102, 3, none⟩ = some (.int .i64 a0_3) := (blk_cell BK102.out 3).trans rfl; have hcz15_4 : w14.cell? ⟨gb102, 4, none⟩ = some (.int .i64 a0_4) := (blk_cell BK102.out 4).trans rfl; have hcz15_5 : w14.cell? ⟨gb102, 5, none⟩ = some (.int .i64 a0_5) := (blk_cell BK102.out 5).trans rfl; have hcz15_6 : w14.cell? ⟨gb102, 6, none⟩ = some (.int .i64 a0_6) := (blk_cell BK102.out 6).trans rfl; have hcz15_7 : w14.cell? ⟨gb102, 7, none⟩ = some (.int .i64 a0_7) := (blk_cell BK102.out 7).trans rfl; have hcz15_8 : w14.cell? ⟨gb102, 8, none⟩ = some (.int .i64 a0_8) := (blk_cell BK102.out 8).trans rfl; have hcz15_9 : w14.cell? ⟨gb102, 9, none⟩ = some (.int .i64 a0_9) := (blk_cell BK102.out 9).trans rfl; have hcz15_10 : w14.cell? ⟨gb102, 10, none⟩ = some (.int .i64 a0_10) := (blk_cell BK102.out 10).trans rfl; have hcz15_11 : w14.cell? ⟨gb102, 11, none⟩ = some (.int .i64 a0_11) := (blk_cell BK102.out 11).trans rfl; have hcz15_12 : w14.cell? ⟨gb102, 12, none⟩ = some (.int .i64 a0_12) := (blk_cell BK102.out 12).trans rfl; have hcz15_13 : w14.cell? ⟨gb102, 13, none⟩ = some (.int .i64 a0_13) := (blk_cell BK102.out 13).trans rfl; have hcz15_14 : w14.cell? ⟨gb102, 14, none⟩ = some (.int .i64 a0_14) := (blk_cell BK102.out 14).trans rfl; have hfz15_0 := blk_frozen BK102.out 0; have hfz15_1 := blk_frozen BK102.out 1; have hfz15_2 := blk_frozen BK102.out 2; have hfz15_3 := blk_frozen BK102.out 3; have hfz15_4 := blk_frozen BK102.out 4; have hfz15_5 := blk_frozen BK102.out 5; have hfz15_6 := blk_frozen BK102.out 6; have hfz15_7 := blk_frozen BK102.out 7; have hfz15_8 := blk_frozen BK102.out 8; have hfz15_9 := blk_frozen BK102.out 9; have hfz15_10 := blk_frozen BK102.out 10; have hfz15_11 := blk_frozen BK102.out 11; have hfz15_12 := blk_frozen BK102.out 12; have hfz15_13 := blk_frozen BK102.out 13; have hfz15_14 := blk_frozen BK102.out 14) | (go_at_call 71; (with_reducible refine (rect_Holds.calls a0_6 a0_7 a0_8 a0_9 a1 a2 t105 _ A9.out).mono ?_); rintro e w16 ⟨rfl, hb⟩; have n0_ := Aside0.mk (blk_below (g := gb102) (o := .cells #[.int .i64 a0_0, .int .i64 a0_1, .int .i64 a0_2, .int .i64 a0_3, .int .i64 a0_4, .int .i64 a0_5, .int .i64 a0_6, .int .i64 a0_7, .int .i64 a0_8, .int .i64 a0_9, .int .i64 a0_10, .int .i64 a0_11, .int .i64 a0_12, .int .i64 a0_13, .int .i64 a0_14] 39 (0, 0)) (by (with_reducible repeat (first | refine blk_drewN ?_ _ | refine blk_drew ?_ | refine blk_alloc ?_ _)); exact BK102.out) hb); have n1_ := Aside0.mk (below_step (by repeat (first | (with_reducible first | exact HB.out | apply below_alloc | apply pw_below_drewN | apply below_drew1 | refine below_set ?_ GE102.out) | exact HB.out)) hb); clear BK102; clear HB; have BK102 := n0_; have HB := n1_; clear n0_ n1_; (try clear hb); (try clear hb2); (try clear hk); (try clear hi)))
    go_ret
    exact ⟨by first | rfl | (simp [errW_none, errW_some] <;> rfl) | (simp [*, errW_none, errW_some] <;> rfl), by repeat (first | (with_reducible first | exact HB.out | apply below_alloc | apply pw_below_drewN | apply below_drew1 | refine below_set ?_ GE102.out) | exact HB.out)⟩
   ·rw [if_neg c8] at H
    have c8b0 : (a0_1 == 1) = false := beq_eq_false_iff_ne.mpr c8
    have c8b1 : (a0_1 != 1) = true := bne_iff_ne.mpr c8
    obtain rfl := Option.some.inj H
    go_enter Try.func64, Try.ntmps64
    go_wp2_with (first | ((with_reducible refine gate_dst (N := 3) rfl ?_); refine box_event ?hg (N := 3) ?hd (cs := #[.int .i64 a0_0, .int .i64 a0_1, .int .i64 a0_2, .int .i64 a0_3, .int .i64 a0_4, .int .i64 a0_5, .int .i64 a0_6, .int .i64 a0_7, .int .i64 a0_8, .int .i64 a0_9, .int .i64 a0_10, .int .i64 a0_11, .int .i64 a0_12, .int .i64 a0_13, .int .i64 a0_14]) (t := 39) ?hr ?_; (case hd => rfl); (case hg => rfl); (case hr => first | (go_simp; done) | (go_simp; rfl)); intro gb102 hg w17 hbox hb; have n0_ := Aside0.mk (below_step (by repeat (first | (with_reducible first | exact HB.out | apply below_alloc | apply pw_below_drewN | apply below_drew1) | exact HB.out)) hb); have n1_ := Aside0.mk (hbox); have n2_ := Aside0.mk ((by rw [hg]; exact (below_size (by repeat (first | (with_reducible first | exact HB.out | apply below_alloc | apply pw_below_drewN | apply below_drew1) | exact HB.out))) : w.heap.size ≤ gb102)); have n3_ := Aside0.mk ((by rw [hg]; exact (below_size (by repeat (first | (with_reducible first | exact HB.out | apply below_alloc | apply pw_below_drewN | apply below_drew1) | exact HB.out))) : w.heap.size ≤ gb102)); clear HB; have HB := n0_; have BK102 := n1_; have GW102 := n2_; have GE102 := n3_; clear n0_ n1_ n2_ n3_; clear hb hbox hg; have hcz18_0 : w17.cell? ⟨gb102, 0, none⟩ = some (.int .i64 a0_0) := (blk_cell BK102.out 0).trans rfl; have hcz18_1 : w17.cell? ⟨gb102, 1, none⟩ = some (.int .i64 a0_1) := (blk_cell BK102.out 1).trans rfl; have hcz18_2 : w17.cell? ⟨gb102, 2, none⟩ = some (.int .i64 a0_2) := (blk_cell BK102.out 2).trans rfl; have hcz18_3 : w17.cell? ⟨gb102, 3, none⟩ = some (.int .i64 a0_3) := (blk_cell BK102.out 3).trans rfl; have hcz18_4 : w17.cell? ⟨gb102, 4, none⟩ = some (.int .i64 a0_4) := (blk_cell BK102.out 4).trans rfl; have hcz18_5 : w17.cell? ⟨gb102, 5, none⟩ = some (.int .i64 a0_5) := (blk_cell BK102.out 5).trans rfl; have hcz18_6 : w17.cell? ⟨gb102, 6, none⟩ = some (.int .i64 a0_6) := (blk_cell BK102.out 6).trans rfl; have hcz18_7 : w17.cell? ⟨gb102, 7, none⟩ = some (.int .i64 a0_7) := (blk_cell BK102.out 7).trans rfl; have hcz18_8 : w17.cell? ⟨gb102, 8, none⟩ = some (.int .i64 a0_8) := (blk_cell BK102.out 8).trans rfl; have hcz18_9 : w17.cell? ⟨gb102, 9, none⟩ = some (.int .i64 a0_9) := (blk_cell BK102.out 9).trans rfl; have hcz18_10 : w17.cell? ⟨gb102, 10, none⟩ = some (.int .i64 a0_10) := (blk_cell BK102.out 10).trans rfl; have hcz18_11 : w17.cell? ⟨gb102, 11, none⟩ = some (.int .i64 a0_11) := (blk_cell BK102.out 11).trans rfl; have hcz18_12 : w17.cell? ⟨gb102, 12, none⟩ = some (.int .i64 a0_12) := (blk_cell BK102.out 12).trans rfl; have hcz18_13 : w17.cell? ⟨gb102, 13, none⟩ = some (.int .i64 a0_13) := (blk_cell BK102.out 13).trans rfl; have hcz18_14 : w17.cell? ⟨gb102, 14, none⟩ = some (.int .i64 a0_14) := (blk_cell BK102.out 14).trans rfl; have hfz18_0 := blk_frozen BK102.out 0; have hfz18_1 := blk_frozen BK102.out 1; have hfz18_2 := blk_frozen BK102.out 2; have hfz18_3 := blk_frozen BK102.out 3; have hfz18_4 := blk_frozen BK102.out 4; have hfz18_5 := blk_frozen BK102.out 5; have hfz18_6 := blk_frozen BK102.out 6; have hfz18_7 := blk_frozen BK102.out 7; have hfz18_8 := blk_frozen BK102.out 8; have hfz18_9 := blk_frozen BK102.out 9; have hfz18_10 := blk_frozen BK102.out 10; have hfz18_11 := blk_frozen BK102.out 11; have hfz18_12 := blk_frozen BK102.out 12; have hfz18_13 := blk_frozen BK102.out 13; have hfz18_14 := blk_frozen BK102.out 14) | ((with_reducible refine gate_callee (f := 71) rfl ?_); refine goesL_ (some 11) rfl rfl Try.func71 (by kernel_rfl) rfl #[.agg #[.int .i64 a0_2, .int .i64 a0_3, .int .i64 a0_4, .int .i64 a0_5], .int .i64 a1, .int .i64 a2] rfl (by (try simp only [List.map_toArray, List.map_cons, List.map_nil]); first | done | rfl | (simp only [List.length_drop, List.length_take]; rfl)) ?_; (with_reducible refine (rect_Holds.calls a0_2 a0_3 a0_4 a0_5 a1 a2 true _ A4.out).mono ?_); rintro e w19 ⟨rfl, hb⟩; refine ⟨_, rfl, ?_⟩; have n0_ := Aside0.mk (blk_below (g := gb102) (o := .cells #[.int .i64 a0_0, .int .i64 a0_1, .int .i64 a0_2, .int .i64 a0_3, .int .i64 a0_4, .int .i64 a0_5, .int .i64 a0_6, .int .i64 a0_7, .int .i64 a0_8, .int .i64 a0_9, .int .i64 a0_10, .int .i64 a0_11, .int .i64 a0_12, .int .i64 a0_13, .int .i64 a0_14] 39 (0, 0)) (by (with_reducible repeat (first | refine blk_drewN ?_ _ | refine blk_drew ?_ | refine blk_alloc ?_ _)); exact BK102.out) hb); have n1_ := Aside0.mk (below_step (by repeat (first | (with_reducible first | exact HB.out | apply below_alloc | apply pw_below_drewN | apply below_drew1 | refine below_set ?_ GE102.out) | exact HB.out)) hb); clear BK102; clear HB; have BK102 := n0_; have HB := n1_; clear n0_ n1_; (try clear hb); (try clear hb2); (try clear hk); (try clear hi); have hcz20_0 : w19.cell? ⟨gb102, 0, none⟩ = some (.int .i64 a0_0) := (blk_cell BK102.out 0).trans rfl; have hcz20_1 : w19.cell? ⟨gb102, 1, none⟩ = some (.int .i64 a0_1) := (blk_cell BK102.out 1).trans rfl; have hcz20_2 : w19.cell? ⟨gb102, 2, none⟩ = some (.int .i64 a0_2) := (blk_cell BK102.out 2).trans rfl; have hcz20_3 : w19.cell? ⟨gb102, 3, none⟩ = some (.int .i64 a0_3) := (blk_cell BK102.out 3).trans rfl; have hcz20_4 : w19.cell? ⟨gb102, 4, none⟩ = some (.int .i64 a0_4) := (blk_cell BK102.out 4).trans rfl; have hcz20_5 : w19.cell? ⟨gb102, 5, none⟩ = some (.int .i64 a0_5) := (blk_cell BK102.out 5).trans rfl; have hcz20_6 : w19.cell? ⟨gb102, 6, none⟩ = some (.int .i64 a0_6) := (blk_cell BK102.out 6).trans rfl; have hcz20_7 : w19.cell? ⟨gb102, 7, none⟩ = some (.int .i64 a0_7) := (blk_cell BK102.out 7).trans rfl; have hcz20_8 : w19.cell? ⟨gb102, 8, none⟩ = some (.int .i64 a0_8) := (blk_cell BK102.out 8).trans rfl; have hcz20_9 : w19.cell? ⟨gb102, 9, none⟩ = some (.int .i64 a0_9) := (blk_cell BK102.out 9).trans rfl; have hcz20_10 : w19.cell? ⟨gb102, 10, none⟩ = some (.int .i64 a0_10) := (blk_cell BK102.out 10).trans rfl; have hcz20_11 : w19.cell? ⟨gb102, 11, none⟩ = some (.int .i64 a0_11) := (blk_cell BK102.out 11).trans rfl; have hcz20_12 : w19.cell? ⟨gb102, 12, none⟩ = some (.int .i64 a0_12) := (blk_cell BK102.out 12).trans rfl; have hcz20_13 : w19.cell? ⟨gb102, 13, none⟩ = some (.int .i64 a0_13) := (blk_cell BK102.out 13).trans rfl; have hcz20_14 : w19.cell? ⟨gb102, 14, none⟩ = some (.int .i64 a0_14) := (blk_cell BK102.out 14).trans rfl; have hfz20_0 := blk_frozen BK102.out 0; have hfz20_1 := blk_frozen BK102.out 1; have hfz20_2 := blk_frozen BK102.out 2; have hfz20_3 := blk_frozen BK102.out 3; have hfz20_4 := blk_frozen BK102.out 4; have hfz20_5 := blk_frozen BK102.out 5; have hfz20_6 := blk_frozen BK102.out 6; have hfz20_7 := blk_frozen BK102.out 7; have hfz20_8 := blk_frozen BK102.out 8; have hfz20_9 := blk_frozen BK102.out 9; have hfz20_10 := blk_frozen BK102.out 10; have hfz20_11 := blk_frozen BK102.out 11; have hfz20_12 := blk_frozen BK102.out 12; have hfz20_13 := blk_frozen BK102.out 13; have hfz20_14 := blk_frozen BK102.out 14) | (go_at_call 71; (with_reducible refine (rect_Holds.calls a0_10 a0_11 a0_12 a0_13 a1 a2 true _ A6.out).mono ?_); rintro e w21 ⟨rfl, hb⟩; have n0_ := Aside0.mk (blk_below (g := gb102) (o := .cells #[.int .i64 a0_0, .int .i64 a0_1, .int .i64 a0_2, .int .i64 a0_3, .int .i64 a0_4, .int .i64 a0_5, .int .i64 a0_6, .int .i64 a0_7, .int .i64 a0_8, .int .i64 a0_9, .int .i64 a0_10, .int .i64 a0_11, .int .i64 a0_12, .int .i64 a0_13, .int .i64 a0_14] 39 (0, 0)) (by (with_reducible repeat (first | refine blk_drewN ?_ _ | refine blk_drew ?_ | refine blk_alloc ?_ _)); exact BK102.out) hb); have n1_ := Aside0.mk (below_step (by repeat (first | (with_reducible first | exact HB.out | apply below_alloc | apply pw_below_drewN | apply below_drew1 | refine below_set ?_ GE102.out) | exact HB.out)) hb); clear BK102; clear HB; have BK102 := n0_; have HB := n1_; clear n0_ n1_; (try clear hb); (try clear hb2); (try clear hk); (try clear hi); have hcz22_0 : w21.cell? ⟨gb102, 0, none⟩ = some (.int .i64 a0_0) := (blk_cell BK102.out 0).trans rfl; have hcz22_1 : w21.cell? ⟨gb102, 1, none⟩ = some (.int .i64 a0_1) := (blk_cell BK102.out 1).trans rfl; have hcz22_2 : w21.cell? ⟨gb102, 2, none⟩ = some (.int .i64 a0_2) := (blk_cell BK102.out 2).trans rfl; have hcz22_3 : w21.cell? ⟨gb102, 3, none⟩ = some (.int .i64 a0_3) := (blk_cell BK102.out 3).trans rfl; have hcz22_4 : w21.cell? ⟨gb102, 4, none⟩ = some (.int .i64 a0_4) := (blk_cell BK102.out 4).trans rfl; have hcz22_5 : w21.cell? ⟨gb102, 5, none⟩ = some (.int .i64 a0_5) := (blk_cell BK102.out 5).trans rfl; have hcz22_6 : w21.cell? ⟨gb102, 6, none⟩ = some (.int .i64 a0_6) := (blk_cell BK102.out 6).trans rfl; have hcz22_7 : w21.cell? ⟨gb102, 7, none⟩ = some (.int .i64 a0_7) := (blk_cell BK102.out 7).trans rfl; have hcz22_8 : w21.cell? ⟨gb102, 8, none⟩ = some (.int .i64 a0_8) := (blk_cell BK102.out 8).trans rfl; have hcz22_9 : w21.cell? ⟨gb102, 9, none⟩ = some (.int .i64 a0_9) := (blk_cell BK102.out 9).trans rfl; have hcz22_10 : w21.cell? ⟨gb102, 10, none⟩ = some (.int .i64 a0_10) := (blk_cell BK102.out 10).trans rfl; have hcz22_11 : w21.cell? ⟨gb102, 11, none⟩ = some (.int .i64 a0_11) := (blk_cell BK102.out 11).trans rfl; have hcz22_12 : w21.cell? ⟨gb102, 12, none⟩ = some (.int .i64 a0_12) := (blk_cell BK102.out 12).trans rfl; have hcz22_13 : w21.cell? ⟨gb102, 13, none⟩ = some (.int .i64 a0_13) := (blk_cell BK102.out 13).trans rfl; have hcz22_14 : w21.cell? ⟨gb102, 14, none⟩ = some (.int .i64 a0_14) := (blk_cell BK102.out 14).trans rfl; have hfz22_0 := blk_frozen BK102.out 0; have hfz22_1 := blk_frozen BK102.out 1; have hfz22_2 := blk_frozen BK102.out 2; have hfz22_3 := blk_frozen BK102.out 3; have hfz22_4 := blk_frozen BK102.out 4; have hfz22_5 := blk_frozen BK102.out 5; have hfz22_6 := blk_frozen BK102.out 6; have hfz22_7 := blk_frozen BK102.out 7; have hfz22_8 := blk_frozen BK102.out 8; have hfz22_9 := blk_frozen BK102.out 9; have hfz22_10 := blk_frozen BK102.out 10; have hfz22_11 := blk_frozen BK102.out 11; have hfz22_12 := blk_frozen BK102.out 12; have hfz22_13 := blk_frozen BK102.out 13; have hfz22_14 := blk_frozen BK102.out 14))
    go_ret
    exact ⟨by first | rfl | (simp [errW_none, errW_some] <;> rfl) | (simp [*, errW_none, errW_some] <;> rfl), by repeat (first | (with_reducible first | exact HB.out | apply below_alloc | apply pw_below_drewN | apply below_drew1 | refine below_set ?_ GE102.out) | exact HB.out)⟩
  ·replace c7 := Bool.eq_false_iff.mpr c7
   subst c7
   have H1 : (some false) = some r := by rw [if_neg (show ¬ (false = true) by decide)] at H; exact H
   clear H
   have H := H1
   clear H1
   obtain rfl := Option.some.inj H
   go_enter Try.func64, Try.ntmps64
   go_wp2_with (first | ((with_reducible refine gate_dst (N := 3) rfl ?_); refine box_event ?hg (N := 3) ?hd (cs := #[.int .i64 a0_0, .int .i64 a0_1, .int .i64 a0_2, .int .i64 a0_3, .int .i64 a0_4, .int .i64 a0_5, .int .i64 a0_6, .int .i64 a0_7, .int .i64 a0_8, .int .i64 a0_9, .int .i64 a0_10, .int .i64 a0_11, .int .i64 a0_12, .int .i64 a0_13, .int .i64 a0_14]) (t := 39) ?hr ?_; (case hd => rfl); (case hg => rfl); (case hr => first | (go_simp; done) | (go_simp; rfl)); intro gb102 hg w23 hbox hb; have n0_ := Aside0.mk (below_step (by repeat (first | (with_reducible first | exact HB.out | apply below_alloc | apply pw_below_drewN | apply below_drew1) | exact HB.out)) hb); have n1_ := Aside0.mk (hbox); have n2_ := Aside0.mk ((by rw [hg]; exact (below_size (by repeat (first | (with_reducible first | exact HB.out | apply below_alloc | apply pw_below_drewN | apply below_drew1) | exact HB.out))) : w.heap.size ≤ gb102)); have n3_ := Aside0.mk ((by rw [hg]; exact (below_size (by repeat (first | (with_reducible first | exact HB.out | apply below_alloc | apply pw_below_drewN | apply below_drew1) | exact HB.out))) : w.heap.size ≤ gb102)); clear HB; have HB := n0_; have BK102 := n1_; have GW102 := n2_; have GE102 := n3_; clear n0_ n1_ n2_ n3_; clear hb hbox hg; have hcz24_0 : w23.cell? ⟨gb102, 0, none⟩ = some (.int .i64 a0_0) := (blk_cell BK102.out 0).trans rfl; have hcz24_1 : w23.cell? ⟨gb102, 1, none⟩ = some (.int .i64 a0_1) := (blk_cell BK102.out 1).trans rfl; have hcz24_2 : w23.cell? ⟨gb102, 2, none⟩ = some (.int .i64 a0_2) := (blk_cell BK102.out 2).trans rfl; have hcz24_3 : w23.cell? ⟨gb102, 3, none⟩ = some (.int .i64 a0_3) := (blk_cell BK102.out 3).trans rfl; have hcz24_4 : w23.cell? ⟨gb102, 4, none⟩ = some (.int .i64 a0_4) := (blk_cell BK102.out 4).trans rfl; have hcz24_5 : w23.cell? ⟨gb102, 5, none⟩ = some (.int .i64 a0_5) := (blk_cell BK102.out 5).trans rfl; have hcz24_6 : w23.cell? ⟨gb102, 6, none⟩ = some (.int .i64 a0_6) := (blk_cell BK102.out 6).trans rfl; have hcz24_7 : w23.cell? ⟨gb102, 7, none⟩ = some (.int .i64 a0_7) := (blk_cell BK102.out 7).trans rfl; have hcz24_8 : w23.cell? ⟨gb102, 8, none⟩ = some (.int .i64 a0_8) := (blk_cell BK102.out 8).trans rfl; have hcz24_9 : w23.cell? ⟨gb102, 9, none⟩ = some (.int .i64 a0_9) := (blk_cell BK102.out 9).trans rfl; have hcz24_10 : w23.cell? ⟨gb102, 10, none⟩ = some (.int .i64 a0_10) := (blk_cell BK102.out 10).trans rfl; have hcz24_11 : w23.cell? ⟨gb102, 11, none⟩ = some (.int .i64 a0_11) := (blk_cell BK102.out 11).trans rfl; have hcz24_12 : w23.cell? ⟨gb102, 12, none⟩ = some (.int .i64 a0_12) := (blk_cell BK102.out 12).trans rfl; have hcz24_13 : w23.cell? ⟨gb102, 13, none⟩ = some (.int .i64 a0_13) := (blk_cell BK102.out 13).trans rfl; have hcz24_14 : w23.cell? ⟨gb102, 14, none⟩ = some (.int .i64 a0_14) := (blk_cell BK102.out 14).trans rfl; have hfz24_0 := blk_frozen BK102.out 0; have hfz24_1 := blk_frozen BK102.out 1; have hfz24_2 := blk_frozen BK102.out 2; have hfz24_3 := blk_frozen BK102.out 3; have hfz24_4 := blk_frozen BK102.out 4; have hfz24_5 := blk_frozen BK102.out 5; have hfz24_6 := blk_frozen BK102.out 6; have hfz24_7 := blk_frozen BK102.out 7; have hfz24_8 := blk_frozen BK102.out 8; have hfz24_9 := blk_frozen BK102.out 9; have hfz24_10 := blk_frozen BK102.out 10; have hfz24_11 := blk_frozen BK102.out 11; have hfz24_12 := blk_frozen BK102.out 12; have hfz24_13 := blk_frozen BK102.out 13; have hfz24_14 := blk_frozen BK102.out 14) | ((with_reducible refine gate_callee (f := 71) rfl ?_); refine goesL_ (some 11) rfl rfl Try.func71 (by kernel_rfl) rfl #[.agg #[.int .i64 a0_2, .int .i64 a0_3, .int .i64 a0_4, .int .i64 a0_5], .int .i64 a1, .int .i64 a2] rfl (by (try simp only [List.map_toArray, List.map_cons, List.map_nil]); first | done | rfl | (simp only [List.length_drop, List.length_take]; rfl)) ?_; (with_reducible refine (rect_Holds.calls a0_2 a0_3 a0_4 a0_5 a1 a2 true _ A4.out).mono ?_); rintro e w25 ⟨rfl, hb⟩; refine ⟨_, rfl, ?_⟩; have n0_ := Aside0.mk (blk_below (g := gb102) (o := .cells #[.int .i64 a0_0, .int .i64 a0_1, .int .i64 a0_2, .int .i64 a0_3, .int .i64 a0_4, .int .i64 a0_5, .int .i64 a0_6, .int .i64 a0_7, .int .i64 a0_8, .int .i64 a0_9, .int .i64 a0_10, .int .i64 a0_11, .int .i64 a0_12, .int .i64 a0_13, .int .i64 a0_14] 39 (0, 0)) (by (with_reducible repeat (first | refine blk_drewN ?_ _ | refine blk_drew ?_ | refine blk_alloc ?_ _)); exact BK102.out) hb); have n1_ := Aside0.mk (below_step (by repeat (first | (with_reducible first | exact HB.out | apply below_alloc | apply pw_below_drewN | apply below_drew1 | refine below_set ?_ GE102.out) | exact HB.out)) hb); clear BK102; clear HB; have BK102 := n0_; have HB := n1_; clear n0_ n1_; (try clear hb); (try clear hb2); (try clear hk); (try clear hi); have hcz26_0 : w25.cell? ⟨gb102, 0, none⟩ = some (.int .i64 a0_0) := (blk_cell BK102.out 0).trans rfl; have hcz26_1 : w25.cell? ⟨gb102, 1, none⟩ = some (.int .i64 a0_1) := (blk_cell BK102.out 1).trans rfl; have hcz26_2 : w25.cell? ⟨gb102, 2, none⟩ = some (.int .i64 a0_2) := (blk_cell BK102.out 2).trans rfl; have hcz26_3 : w25.cell? ⟨gb102, 3, none⟩ = some (.int .i64 a0_3) := (blk_cell BK102.out 3).trans rfl; have hcz26_4 : w25.cell? ⟨gb102, 4, none⟩ = some (.int .i64 a0_4) := (blk_cell BK102.out 4).trans rfl; have hcz26_5 : w25.cell? ⟨gb102, 5, none⟩ = some (.int .i64 a0_5) := (blk_cell BK102.out 5).trans rfl; have hcz26_6 : w25.cell? ⟨gb102, 6, none⟩ = some (.int .i64 a0_6) := (blk_cell BK102.out 6).trans rfl; have hcz26_7 : w25.cell? ⟨gb102, 7, none⟩ = some (.int .i64 a0_7) := (blk_cell BK102.out 7).trans rfl; have hcz26_8 : w25.cell? ⟨gb102, 8, none⟩ = some (.int .i64 a0_8) := (blk_cell BK102.out 8).trans rfl; have hcz26_9 : w25.cell? ⟨gb102, 9, none⟩ = some (.int .i64 a0_9) := (blk_cell BK102.out 9).trans rfl; have hcz26_10 : w25.cell? ⟨gb102, 10, none⟩ = some (.int .i64 a0_10) := (blk_cell BK102.out 10).trans rfl; have hcz26_11 : w25.cell? ⟨gb102, 11, none⟩ = some (.int .i64 a0_11) := (blk_cell BK102.out 11).trans rfl; have hcz26_12 : w25.cell? ⟨gb102, 12, none⟩ = some (.int .i64 a0_12) := (blk_cell BK102.out 12).trans rfl; have hcz26_13 : w25.cell? ⟨gb102, 13, none⟩ = some (.int .i64 a0_13) := (blk_cell BK102.out 13).trans rfl; have hcz26_14 : w25.cell? ⟨gb102, 14, none⟩ = some (.int .i64 a0_14) := (blk_cell BK102.out 14).trans rfl; have hfz26_0 := blk_frozen BK102.out 0; have hfz26_1 := blk_frozen BK102.out 1; have hfz26_2 := blk_frozen BK102.out 2; have hfz26_3 := blk_frozen BK102.out 3; have hfz26_4 := blk_frozen BK102.out 4; have hfz26_5 := blk_frozen BK102.out 5; have hfz26_6 := blk_frozen BK102.out 6; have hfz26_7 := blk_frozen BK102.out 7; have hfz26_8 := blk_frozen BK102.out 8; have hfz26_9 := blk_frozen BK102.out 9; have hfz26_10 := blk_frozen BK102.out 10; have hfz26_11 := blk_frozen BK102.out 11; have hfz26_12 := blk_frozen BK102.out 12; have hfz26_13 := blk_frozen BK102.out 13; have hfz26_14 := blk_frozen BK102.out 14) | (go_at_call 71; (with_reducible refine (rect_Holds.calls a0_10 a0_11 a0_12 a0_13 a1 a2 false _ A6.out).mono ?_); rintro e w27 ⟨rfl, hb⟩; have n0_ := Aside0.mk (blk_below (g := gb102) (o := .cells #[.int .i64 a0_0, .int .i64 a0_1, .int .i64 a0_2, .int .i64 a0_3, .int .i64 a0_4, .int .i64 a0_5, .int .i64 a0_6, .int .i64 a0_7, .int .i64 a0_8, .int .i64 a0_9, .int .i64 a0_10, .int .i64 a0_11, .int .i64 a0_12, .int .i64 a0_13, .int .i64 a0_14] 39 (0, 0)) (by (with_reducible repeat (first | refine blk_drewN ?_ _ | refine blk_drew ?_ | refine blk_alloc ?_ _)); exact BK102.out) hb); have n1_ := Aside0.mk (below_step (by repeat (first | (with_reducible first | exact HB.out | apply below_alloc | apply pw_below_drewN | apply below_drew1 | refine below_set ?_ GE102.out) | exact HB.out)) hb); clear BK102; clear HB; have BK102 := n0_; have HB := n1_; clear n0_ n1_; (try clear hb); (try clear hb2); (try clear hk); (try clear hi)))
   go_ret
   exact ⟨by first | rfl | (simp [errW_none, errW_some] <;> rfl) | (simp [*, errW_none, errW_some] <;> rfl), by repeat (first | (with_reducible first | exact HB.out | apply below_alloc | apply pw_below_drewN | apply below_drew1 | refine below_set ?_ GE102.out) | exact HB.out)⟩
 ·replace c5 := Bool.eq_false_iff.mpr c5
  subst c5
  have H1 : (some false) = some r := by rw [if_neg (show ¬ (false = true) by decide)] at H; exact H
  clear H
  have H := H1
  clear H1
  obtain rfl := Option.some.inj H
  go_enter Try.func64, Try.ntmps64
  go_wp2_with (first | ((with_reducible refine gate_dst (N := 3) rfl ?_); refine box_event ?hg (N := 3) ?hd (cs := #[.int .i64 a0_0, .int .i64 a0_1, .int .i64 a0_2, .int .i64 a0_3, .int .i64 a0_4, .int .i64 a0_5, .int .i64 a0_6, .int .i64 a0_7, .int .i64 a0_8, .int .i64 a0_9, .int .i64 a0_10, .int .i64 a0_11, .int .i64 a0_12, .int .i64 a0_13, .int .i64 a0_14]) (t := 39) ?hr ?_; (case hd => rfl); (case hg => rfl); (case hr => first | (go_simp; done) | (go_simp; rfl)); intro gb102 hg w28 hbox hb; have n0_ := Aside0.mk (below_step (by repeat (first | (with_reducible first | exact HB.out | apply below_alloc | apply pw_below_drewN | apply below_drew1) | exact HB.out)) hb); have n1_ := Aside0.mk (hbox); have n2_ := Aside0.mk ((by rw [hg]; exact (below_size (by repeat (first | (with_reducible first | exact HB.out | apply below_alloc | apply pw_below_drewN | apply below_drew1) | exact HB.out))) : w.heap.size ≤ gb102)); have n3_ := Aside0.mk ((by rw [hg]; exact (below_size (by repeat (first | (with_reducible first | exact HB.out | apply below_alloc | apply pw_below_drewN | apply below_drew1) | exact HB.out))) : w.heap.size ≤ gb102)); clear HB; have HB := n0_; have BK102 := n1_; have GW102 := n2_; have GE102 := n3_; clear n0_ n1_ n2_ n3_; clear hb hbox hg; have hcz29_0 : w28.cell? ⟨gb102, 0, none⟩ = some (.int .i64 a0_0) := (blk_cell BK102.out 0).trans rfl; have hcz29_1 : w28.cell? ⟨gb102, 1, none⟩ = some (.int .i64 a0_1) := (blk_cell BK102.out 1).trans rfl; have hcz29_2 : w28.cell? ⟨gb102, 2, none⟩ = some (.int .i64 a0_2) := (blk_cell BK102.out 2).trans rfl; have hcz29_3 : w28.cell? ⟨gb102, 3, none⟩ = some (.int .i64 a0_3) := (blk_cell BK102.out 3).trans rfl; have hcz29_4 : w28.cell? ⟨gb102, 4, none⟩ = some (.int .i64 a0_4) := (blk_cell BK102.out 4).trans rfl; have hcz29_5 : w28.cell? ⟨gb102, 5, none⟩ = some (.int .i64 a0_5) := (blk_cell BK102.out 5).trans rfl; have hcz29_6 : w28.cell? ⟨gb102, 6, none⟩ = some (.int .i64 a0_6) := (blk_cell BK102.out 6).trans rfl; have hcz29_7 : w28.cell? ⟨gb102, 7, none⟩ = some (.int .i64 a0_7) := (blk_cell BK102.out 7).trans rfl; have hcz29_8 : w28.cell? ⟨gb102, 8, none⟩ = some (.int .i64 a0_8) := (blk_cell BK102.out 8).trans rfl; have hcz29_9 : w28.cell? ⟨gb102, 9, none⟩ = some (.int .i64 a0_9) := (blk_cell BK102.out 9).trans rfl; have hcz29_10 : w28.cell? ⟨gb102, 10, none⟩ = some (.int .i64 a0_10) := (blk_cell BK102.out 10).trans rfl; have hcz29_11 : w28.cell? ⟨gb102, 11, none⟩ = some (.int .i64 a0_11) := (blk_cell BK102.out 11).trans rfl; have hcz29_12 : w28.cell? ⟨gb102, 12, none⟩ = some (.int .i64 a0_12) := (blk_cell BK102.out 12).trans rfl; have hcz29_13 : w28.cell? ⟨gb102, 13, none⟩ = some (.int .i64 a0_13) := (blk_cell BK102.out 13).trans rfl; have hcz29_14 : w28.cell? ⟨gb102, 14, none⟩ = some (.int .i64 a0_14) := (blk_cell BK102.out 14).trans rfl; have hfz29_0 := blk_frozen BK102.out 0; have hfz29_1 := blk_frozen BK102.out 1; have hfz29_2 := blk_frozen BK102.out 2; have hfz29_3 := blk_frozen BK102.out 3; have hfz29_4 := blk_frozen BK102.out 4; have hfz29_5 := blk_frozen BK102.out 5; have hfz29_6 := blk_frozen BK102.out 6; have hfz29_7 := blk_frozen BK102.out 7; have hfz29_8 := blk_frozen BK102.out 8; have hfz29_9 := blk_frozen BK102.out 9; have hfz29_10 := blk_frozen BK102.out 10; have hfz29_11 := blk_frozen BK102.out 11; have hfz29_12 := blk_frozen BK102.out 12; have hfz29_13 := blk_frozen BK102.out 13; have hfz29_14 := blk_frozen BK102.out 14) | ((with_reducible refine gate_callee (f := 71) rfl ?_); refine goesL_ (some 11) rfl rfl Try.func71 (by kernel_rfl) rfl #[.agg #[.int .i64 a0_2, .int .i64 a0_3, .int .i64 a0_4, .int .i64 a0_5], .int .i64 a1, .int .i64 a2] rfl (by (try simp only [List.map_toArray, List.map_cons, List.map_nil]); first | done | rfl | (simp only [List.length_drop, List.length_take]; rfl)) ?_; (with_reducible refine (rect_Holds.calls a0_2 a0_3 a0_4 a0_5 a1 a2 false _ A4.out).mono ?_); rintro e w30 ⟨rfl, hb⟩; refine ⟨_, rfl, ?_⟩; have n0_ := Aside0.mk (blk_below (g := gb102) (o := .cells #[.int .i64 a0_0, .int .i64 a0_1, .int .i64 a0_2, .int .i64 a0_3, .int .i64 a0_4, .int .i64 a0_5, .int .i64 a0_6, .int .i64 a0_7, .int .i64 a0_8, .int .i64 a0_9, .int .i64 a0_10, .int .i64 a0_11, .int .i64 a0_12, .int .i64 a0_13, .int .i64 a0_14] 39 (0, 0)) (by (with_reducible repeat (first | refine blk_drewN ?_ _ | refine blk_drew ?_ | refine blk_alloc ?_ _)); exact BK102.out) hb); have n1_ := Aside0.mk (below_step (by repeat (first | (with_reducible first | exact HB.out | apply below_alloc | apply pw_below_drewN | apply below_drew1 | refine below_set ?_ GE102.out) | exact HB.out)) hb); clear BK102; clear HB; have BK102 := n0_; have HB := n1_; clear n0_ n1_; (try clear hb); (try clear hb2); (try clear hk); (try clear hi)))
  go_ret
  exact ⟨by first | rfl | (simp [errW_none, errW_some] <;> rfl) | (simp [*, errW_none, errW_some] <;> rfl), by repeat (first | (with_reducible first | exact HB.out | apply below_alloc | apply pw_below_drewN | apply below_drew1 | refine below_set ?_ GE102.out) | exact HB.out)⟩

/-! ### owner_Of: function 51 -/
def owner_Of.l0 : Nat → List (S39) → Int → Int → Int → Option (Int × Bool)
 | 0, _, _, _, _ => none
 | k + 1, x0, x1, x2, x8 => if x8 ≥ 0 then (if 0 ≤ x8 then (if x8 < (x0.length : Int) then ((owner_Shows.f ((rd_T39 x0 x8).f0) ((rd_T39 x0 x8).f1) ((rd_T39 x0 x8).f2.f0) ((rd_T39 x0 x8).f2.f1) ((rd_T39 x0 x8).f2.f2) ((rd_T39 x0 x8).f2.f3) ((rd_T39 x0 x8).f3.f0) ((rd_T39 x0 x8).f3.f1) ((rd_T39 x0 x8).f3.f2) ((rd_T39 x0 x8).f3.f3) ((rd_T39 x0 x8).f4.f0) ((rd_T39 x0 x8).f4.f1) ((rd_T39 x0 x8).f4.f2) ((rd_T39 x0 x8).f4.f3) ((rd_T39 x0 x8).f5) x1 x2).bind fun t107 => (if t107 = true then (some (x8, true)) else (owner_Of.l0 k x0 x1 x2 (wrap64 (x8 - 1))))) else (none)) else (none)) else (some (0, false))
def owner_Of.f (k : Nat) (l0 : List (S39)) (a1 : Int) (a2 : Int) : Option (Int × Bool) := owner_Of.l0 k l0 a1 a2 (wrap64 ((l0.length : Int) - 1))
theorem owner_Of.mono_l : ∀ k, (∀ y0 y1 y2 y3, LeO (owner_Of.l0 k y0 y1 y2 y3) (owner_Of.l0 (k + 1) y0 y1 y2 y3))
 | 0 => fun _ _ _ _ r h => by simp [owner_Of.l0] at h
 | k + 1 => by
  have ih0 := owner_Of.mono_l k
  ·intro y0 y1 y2 y3
   unfold owner_Of.l0
   repeat' first
   | (with_reducible exact ih0 _ _ _ _)
   | (with_reducible exact LeO.refl _)
   | (with_reducible exact LeO.none _)
   | (with_reducible refine LeO.ite ?_ ?_)
   | (with_reducible refine LeO.bind ?_ (fun _ => ?_))
   | exact ih0 _ _ _ _
   | exact LeO.none _
   | refine LeO.ite ?_ ?_
   | refine LeO.bind ?_ (fun _ => ?_)
theorem owner_Of.mono : ∀ a0 a1 a2 k, LeO (owner_Of.f k a0 a1 a2) (owner_Of.f (k + 1) a0 a1 a2) := by
 intro a0 a1 a2 k
 have ih0 := owner_Of.mono_l k
 unfold owner_Of.f
 repeat' first
   | (with_reducible exact ih0 _ _ _ _)
   | (with_reducible exact LeO.refl _)
   | (with_reducible exact LeO.none _)
   | (with_reducible refine LeO.ite ?_ ?_)
   | (with_reducible refine LeO.bind ?_ (fun _ => ?_))
   | exact ih0 _ _ _ _
   | exact LeO.none _
   | refine LeO.ite ?_ ?_
   | refine LeO.bind ?_ (fun _ => ?_)
set_option maxHeartbeats 8000000 in
set_option maxRecDepth 100000 in
theorem owner_Of.calls (k : Nat) (A0 : Option Addr) (c0 : Nat) (l0 : List (S39)) (a1 : Int) (a2 : Int) (r1 : Int) (r2 : Bool) (w : World) (hr0 : Kd.C k39 w A0 l0.length l0) (hc0 : l0.length ≤ c0) (h : owner_Of.f k l0 a1 a2 = some (r1, r2)) :
  Calls Try.prog 51 #[.slice A0 l0.length c0, .int .i64 a1, .int .i64 a2] w fun e w' => e = .returned (.tuple #[.int .i64 r1, .bool r2]) ∧ Below w.heap.size w w' := by
 have hu39 := Try.underlying39
 have HR0 := Aside0.mk hr0
 have HC0 := Aside0.mk hc0
 clear hr0 hc0
 have HB := Aside0.mk (Below.refl w.heap.size w)
 have H : (owner_Of.l0 k l0 a1 a2 (wrap64 ((l0.length : Int) - 1))) = some (r1, r2) := h
 clear h
 have H' := Aside0.mk H
 clear H
 go_enter Try.func51, Try.ntmps51
 go_wp2
 go_loopg [8] k (fun kq v8 w' => ∃ (x8_1 : Int), v8 = .int .i64 x8_1 ∧ Aside0 (owner_Of.l0 kq l0 a1 a2 x8_1 = some (r1, r2)) ∧ Aside0 (kq ≤ k) ∧ Aside0 (Below w.heap.size w w'))
 case atStart => exact ⟨(wrap64 ((l0.length : Int) - 1)), (by first | rfl | (simp; done) | (simp [*]; done)), H', ⟨Nat.le_refl _⟩, ⟨by repeat (first | (with_reducible first | exact HB.out | apply below_alloc | apply pw_below_drewN | apply below_drew1) | exact HB.out)⟩⟩
 case round =>
  clear H'
  try clear p2
  obtain ⟨x8_1, rfl, HA, HK1, HB⟩ := hrel
  cases gk with
  | zero => exact absurd HA.out (by simp [owner_Of.l0])
  | succ k1 =>
   have H := HA.out
   clear HA
   simp only [owner_Of.l0] at H
   by_cases c4 : x8_1 ≥ 0
   ·rw [if_pos c4] at H
    have c4b0 : decide (0 ≤ x8_1) = true := decide_eq_true c4
    clear c4
    by_cases c5 : 0 ≤ x8_1
    ·rw [if_pos c5] at H
     have c5b0 : decide (0 ≤ x8_1) = true := decide_eq_true c5
     clear c5
     by_cases c6 : x8_1 < (l0.length : Int)
     ·rw [if_pos c6] at H
      have c6b0 : decide (x8_1 < (l0.length : Int)) = true := decide_eq_true c6
      clear c6
      replace H := Option.bind_eq_some_iff.mp H
      obtain ⟨t107, A70, H⟩ := H
      replace H : (if t107 = true then (some (x8_1, true)) else (owner_Of.l0 k1 l0 a1 a2 (wrap64 (x8_1 - 1)))) = some (r1, r2) := H
      have A7 := Aside0.mk A70
      clear A70
      by_cases c8 : t107 = true
      ·subst c8
       have H1 : (some (x8_1, true)) = some (r1, r2) := by rw [if_pos rfl] at H; exact H
       clear H
       have H := H1
       clear H1
       simp only [Option.some.injEq, Prod.mk.injEq] at H
       obtain ⟨rfl, rfl⟩ := H
       have p106 : 0 ≤ (x8_1 : Int) := of_decide_eq_true (by first | (with_reducible assumption) | assumption)
       have q106 : x8_1 < (l0.length : Int) := of_decide_eq_true (by first | (with_reducible assumption) | assumption)
       obtain ⟨ad106, e106, hx106_0, hx106_1, hx106_2, hx106_3, hx106_4, hx106_5, hx106_6, hx106_7, hx106_8, hx106_9, hx106_10, hx106_11, hx106_12, hx106_13, hx106_14⟩ := at_T39 HR0.out x8_1 p106 q106
       cases e106
       replace hx106_0 := (HB.out.cell (World.block_lt_of_cell? w _ hx106_0)).trans hx106_0
       replace hx106_1 := (HB.out.cell (World.block_lt_of_cell? w _ hx106_1)).trans hx106_1
       replace hx106_2 := (HB.out.cell (World.block_lt_of_cell? w _ hx106_2)).trans hx106_2
       replace hx106_3 := (HB.out.cell (World.block_lt_of_cell? w _ hx106_3)).trans hx106_3
       replace hx106_4 := (HB.out.cell (World.block_lt_of_cell? w _ hx106_4)).trans hx106_4
       replace hx106_5 := (HB.out.cell (World.block_lt_of_cell? w _ hx106_5)).trans hx106_5
       replace hx106_6 := (HB.out.cell (World.block_lt_of_cell? w _ hx106_6)).trans hx106_6
       replace hx106_7 := (HB.out.cell (World.block_lt_of_cell? w _ hx106_7)).trans hx106_7
       replace hx106_8 := (HB.out.cell (World.block_lt_of_cell? w _ hx106_8)).trans hx106_8
       replace hx106_9 := (HB.out.cell (World.block_lt_of_cell? w _ hx106_9)).trans hx106_9
       replace hx106_10 := (HB.out.cell (World.block_lt_of_cell? w _ hx106_10)).trans hx106_10
       replace hx106_11 := (HB.out.cell (World.block_lt_of_cell? w _ hx106_11)).trans hx106_11
       replace hx106_12 := (HB.out.cell (World.block_lt_of_cell? w _ hx106_12)).trans hx106_12
       replace hx106_13 := (HB.out.cell (World.block_lt_of_cell? w _ hx106_13)).trans hx106_13
       replace hx106_14 := (HB.out.cell (World.block_lt_of_cell? w _ hx106_14)).trans hx106_14
       replace p106 := eq_true p106
       replace q106 := eq_true q106
       go_wp2_with (first | ((with_reducible refine gate_callee (f := 64) rfl ?_); refine goesL_ (some 22) rfl rfl Try.func64 (by kernel_rfl) rfl #[.agg #[.int .i64 ((rd_T39 l0 x8_1).f0), .int .i64 ((rd_T39 l0 x8_1).f1), .int .i64 ((rd_T39 l0 x8_1).f2.f0), .int .i64 ((rd_T39 l0 x8_1).f2.f1), .int .i64 ((rd_T39 l0 x8_1).f2.f2), .int .i64 ((rd_T39 l0 x8_1).f2.f3), .int .i64 ((rd_T39 l0 x8_1).f3.f0), .int .i64 ((rd_T39 l0 x8_1).f3.f1), .int .i64 ((rd_T39 l0 x8_1).f3.f2), .int .i64 ((rd_T39 l0 x8_1).f3.f3), .int .i64 ((rd_T39 l0 x8_1).f4.f0), .int .i64 ((rd_T39 l0 x8_1).f4.f1), .int .i64 ((rd_T39 l0 x8_1).f4.f2), .int .i64 ((rd_T39 l0 x8_1).f4.f3), .int .i64 ((rd_T39 l0 x8_1).f5)], .int .i64 a1, .int .i64 a2] rfl (by (try simp only [List.map_toArray, List.map_cons, List.map_nil]); first | done | rfl | (simp only [List.length_drop, List.length_take]; rfl)) ?_; (with_reducible refine (owner_Shows.calls ((rd_T39 l0 x8_1).f0) ((rd_T39 l0 x8_1).f1) ((rd_T39 l0 x8_1).f2.f0) ((rd_T39 l0 x8_1).f2.f1) ((rd_T39 l0 x8_1).f2.f2) ((rd_T39 l0 x8_1).f2.f3) ((rd_T39 l0 x8_1).f3.f0) ((rd_T39 l0 x8_1).f3.f1) ((rd_T39 l0 x8_1).f3.f2) ((rd_T39 l0 x8_1).f3.f3) ((rd_T39 l0 x8_1).f4.f0) ((rd_T39 l0 x8_1).f4.f1) ((rd_T39 l0 x8_1).f4.f2) ((rd_T39 l0 x8_1).f4.f3) ((rd_T39 l0 x8_1).f5) a1 a2 true _ A7.out).mono ?_); rintro e w9 ⟨rfl, hb⟩; refine ⟨_, rfl, ?_⟩; have n0_ := Aside0.mk (below_step (by repeat (first | (with_reducible first | exact HB.out | apply below_alloc | apply pw_below_drewN | apply below_drew1) | exact HB.out)) hb); clear HB; have HB := n0_; clear n0_; (try clear hb); (try clear hb2); (try clear hk); (try clear hi)))
       go_ret2
       exact ⟨by first | rfl | (simp [errW_none, errW_some] <;> rfl) | (simp [*, errW_none, errW_some] <;> rfl), by repeat (first | (with_reducible first | exact HB.out | apply below_alloc | apply pw_below_drewN | apply below_drew1) | exact HB.out)⟩
      ·replace c8 := Bool.eq_false_iff.mpr c8
       subst c8
       have H1 : (owner_Of.l0 k1 l0 a1 a2 (wrap64 (x8_1 - 1))) = some (r1, r2) := by rw [if_neg (show ¬ (false = true) by decide)] at H; exact H
       clear H
       have H := H1
       clear H1
       have H' := Aside0.mk H
       clear H
       have p106 : 0 ≤ (x8_1 : Int) := of_decide_eq_true (by first | (with_reducible assumption) | assumption)
       have q106 : x8_1 < (l0.length : Int) := of_decide_eq_true (by first | (with_reducible assumption) | assumption)
       obtain ⟨ad106, e106, hx106_0, hx106_1, hx106_2, hx106_3, hx106_4, hx106_5, hx106_6, hx106_7, hx106_8, hx106_9, hx106_10, hx106_11, hx106_12, hx106_13, hx106_14⟩ := at_T39 HR0.out x8_1 p106 q106
       cases e106
       replace hx106_0 := (HB.out.cell (World.block_lt_of_cell? w _ hx106_0)).trans hx106_0
       replace hx106_1 := (HB.out.cell (World.block_lt_of_cell? w _ hx106_1)).trans hx106_1
       replace hx106_2 := (HB.out.cell (World.block_lt_of_cell? w _ hx106_2)).trans hx106_2
       replace hx106_3 := (HB.out.cell (World.block_lt_of_cell? w _ hx106_3)).trans hx106_3
       replace hx106_4 := (HB.out.cell (World.block_lt_of_cell? w _ hx106_4)).trans hx106_4
       replace hx106_5 := (HB.out.cell (World.block_lt_of_cell? w _ hx106_5)).trans hx106_5
       replace hx106_6 := (HB.out.cell (World.block_lt_of_cell? w _ hx106_6)).trans hx106_6
       replace hx106_7 := (HB.out.cell (World.block_lt_of_cell? w _ hx106_7)).trans hx106_7
       replace hx106_8 := (HB.out.cell (World.block_lt_of_cell? w _ hx106_8)).trans hx106_8
       replace hx106_9 := (HB.out.cell (World.block_lt_of_cell? w _ hx106_9)).trans hx106_9
       replace hx106_10 := (HB.out.cell (World.block_lt_of_cell? w _ hx106_10)).trans hx106_10
       replace hx106_11 := (HB.out.cell (World.block_lt_of_cell? w _ hx106_11)).trans hx106_11
       replace hx106_12 := (HB.out.cell (World.block_lt_of_cell? w _ hx106_12)).trans hx106_12
       replace hx106_13 := (HB.out.cell (World.block_lt_of_cell? w _ hx106_13)).trans hx106_13
       replace hx106_14 := (HB.out.cell (World.block_lt_of_cell? w _ hx106_14)).trans hx106_14
       replace p106 := eq_true p106
       replace q106 := eq_true q106
       go_wp2_with (first | ((with_reducible refine gate_callee (f := 64) rfl ?_); refine goesL_ (some 22) rfl rfl Try.func64 (by kernel_rfl) rfl #[.agg #[.int .i64 ((rd_T39 l0 x8_1).f0), .int .i64 ((rd_T39 l0 x8_1).f1), .int .i64 ((rd_T39 l0 x8_1).f2.f0), .int .i64 ((rd_T39 l0 x8_1).f2.f1), .int .i64 ((rd_T39 l0 x8_1).f2.f2), .int .i64 ((rd_T39 l0 x8_1).f2.f3), .int .i64 ((rd_T39 l0 x8_1).f3.f0), .int .i64 ((rd_T39 l0 x8_1).f3.f1), .int .i64 ((rd_T39 l0 x8_1).f3.f2), .int .i64 ((rd_T39 l0 x8_1).f3.f3), .int .i64 ((rd_T39 l0 x8_1).f4.f0), .int .i64 ((rd_T39 l0 x8_1).f4.f1), .int .i64 ((rd_T39 l0 x8_1).f4.f2), .int .i64 ((rd_T39 l0 x8_1).f4.f3), .int .i64 ((rd_T39 l0 x8_1).f5)], .int .i64 a1, .int .i64 a2] rfl (by (try simp only [List.map_toArray, List.map_cons, List.map_nil]); first | done | rfl | (simp only [List.length_drop, List.length_take]; rfl)) ?_; (with_reducible refine (owner_Shows.calls ((rd_T39 l0 x8_1).f0) ((rd_T39 l0 x8_1).f1) ((rd_T39 l0 x8_1).f2.f0) ((rd_T39 l0 x8_1).f2.f1) ((rd_T39 l0 x8_1).f2.f2) ((rd_T39 l0 x8_1).f2.f3) ((rd_T39 l0 x8_1).f3.f0) ((rd_T39 l0 x8_1).f3.f1) ((rd_T39 l0 x8_1).f3.f2) ((rd_T39 l0 x8_1).f3.f3) ((rd_T39 l0 x8_1).f4.f0) ((rd_T39 l0 x8_1).f4.f1) ((rd_T39 l0 x8_1).f4.f2) ((rd_T39 l0 x8_1).f4.f3) ((rd_T39 l0 x8_1).f5) a1 a2 false _ A7.out).mono ?_); rintro e w10 ⟨rfl, hb⟩; refine ⟨_, rfl, ?_⟩; have n0_ := Aside0.mk (below_step (by repeat (first | (with_reducible first | exact HB.out | apply below_alloc | apply pw_below_drewN | apply below_drew1) | exact HB.out)) hb); clear HB; have HB := n0_; clear n0_; (try clear hb); (try clear hb2); (try clear hk); (try clear hi)))
       go_roundg k1
       case measure => have := HK1.out; omega
       case rel => exact ⟨(wrap64 (x8_1 - 1)), (by first | rfl | (simp; done) | (simp [*]; done)), H', ⟨by have := HK1.out; omega⟩, ⟨by repeat (first | (with_reducible first | exact HB.out | apply below_alloc | apply pw_below_drewN | apply below_drew1) | exact HB.out)⟩⟩
     ·rw [if_neg c6] at H
      exact absurd H (by simp)
    ·rw [if_neg c5] at H
     exact absurd H (by simp)
   ·rw [if_neg c4] at H
    have c4b0 : decide (0 ≤ x8_1) = false := decide_eq_false c4
    clear c4
    simp only [Option.some.injEq, Prod.mk.injEq] at H
    obtain ⟨rfl, rfl⟩ := H
    go_wp2
    go_ret2
    exact ⟨by first | rfl | (simp [errW_none, errW_some] <;> rfl) | (simp [*, errW_none, errW_some] <;> rfl), by repeat (first | (with_reducible first | exact HB.out | apply below_alloc | apply pw_below_drewN | apply below_drew1) | exact HB.out)⟩

end Go.Proofs.Ytppklhfiajjhmaa.PRasterShifts
