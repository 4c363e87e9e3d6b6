/- What is proved: texts of the law RasterShifts, written by program, anew in fewer bytes. Conditions: none but those in each statement. -/
import Derived.Test.YtppklhfiajjhmaaZRasterShiftsPRasterShiftsx0
import Derived.Test.YtppklhfiajjhmaaZRasterShiftsPRasterShiftsx2
namespace Go.Proofs.Ytppklhfiajjhmaa.PRasterShifts
open Go.RowKit Go.Proofs.YtppklhfiajjhmaaW.PrintWords Go.Proofs.YtppklhfiajjhmaaW.PrintLast Go.Proofs.YtppklhfiajjhmaaW.PrintMore
attribute [local go_sem] max2_int min2_int max_two min_two max_three min_three max_four min_four   -- for this text's walks alone
set_option linter.unusedVariables false
set_option linter.unusedSimpArgs false

/-! ### raster_Draw: function 28 -/
mutual
def raster_Draw.l0 : Nat → List (S39) → List Int → Int → Int → Int → Int → Int → Int → Int → Option (List Int × Int)
 | 0, _, _, _, _, _, _, _, _, _ => none
 | k + 1, x0, x6, x17, x18, x138000, x138001, x138002, x138003, x138004 => if x18 < x17 then (if 0 ≤ x138003 then (if (x138003 : Int).toNat ≤ 35184372088832 then ((raster_Runs.f k x0 (wrap64 (x138001 + (wrap64 (x18 * x138002)))) x138000 (wrap64 (x138000 + (wrap64 (x138003 * x138002))))).bind fun t142 => (raster_Draw.l1 k x0 x6 (List.replicate (x138003 : Int).toNat 0) x17 x18 t142 (t142.length : Int) 0 x138000 x138001 x138002 x138003 x138004)) else (none)) else (none)) else (some (x6, 0))
def raster_Draw.l1 : Nat → List (S39) → List Int → List Int → Int → Int → List (S56) → Int → Int → Int → Int → Int → Int → Int → Option (List Int × Int)
 | 0, _, _, _, _, _, _, _, _, _, _, _, _, _ => none
 | k + 1, x0, x6, x9, x17, x18, x43, x44, x45, x138000, x138001, x138002, x138003, x138004 => if x45 < x44 then (if 0 ≤ x45 then (if x45 < (x43.length : Int) then (if x138002 = 0 then (none) else (raster_Draw.l2 k x0 x6 x9 (wrap64 (Int.tdiv (wrap64 ((wrap64 ((wrap64 (((rd_T56 x43 x45).f0) - x138000)) + x138002)) - 1)) x138002)) x17 x18 x43 x44 x45 x138000 x138001 x138002 x138003 x138004 ((rd_T56 x43 x45).f0) ((rd_T56 x43 x45).f1) ((rd_T56 x43 x45).f2))) else (none)) else (none)) else (if x6.length + x9.length < 17592186044416 then (raster_Draw.l0 k x0 (x6 ++ x9) x17 (wrap64 (x18 + 1)) x138000 x138001 x138002 x138003 x138004) else (none))
def raster_Draw.l2 : Nat → List (S39) → List Int → List Int → Int → Int → Int → List (S56) → Int → Int → Int → Int → Int → Int → Int → Int → Int → Int → Option (List Int × Int)
 | 0, _, _, _, _, _, _, _, _, _, _, _, _, _, _, _, _, _ => none
 | k + 1, x0, x6, x9, x12, x17, x18, x43, x44, x45, x138000, x138001, x138002, x138003, x138004, x150000, x150001, x150002 => if x12 < x138003 then (if (wrap64 (x138000 + (wrap64 (x12 * x138002)))) < x150001 then (if 0 ≤ x150002 then (if x150002 < (x0.length : Int) then (if 0 ≤ x12 then (if x12 < (x9.length : Int) then (raster_Draw.l2 k x0 x6 (x9.set (x12 : Int).toNat ((rd_T39 x0 x150002).f5)) (wrap64 (x12 + 1)) x17 x18 x43 x44 x45 x138000 x138001 x138002 x138003 x138004 x150000 x150001 x150002) else (none)) else (none)) else (none)) else (none)) else (raster_Draw.l1 k x0 x6 x9 x17 x18 x43 x44 (wrap64 (x45 + 1)) x138000 x138001 x138002 x138003 x138004)) else (raster_Draw.l1 k x0 x6 x9 x17 x18 x43 x44 (wrap64 (x45 + 1)) x138000 x138001 x138002 x138003 x138004)
end
def raster_Draw.f (k : Nat) (l0 : List (S39)) (a1_0 : Int) (a1_1 : Int) (a1_2 : Int) (a1_3 : Int) (a1_4 : Int) : Option (List Int × Int) := (raster_Grid_right.f k a1_0 a1_1 a1_2 a1_3 a1_4).bind fun t138 => (if t138 = true then (raster_Draw.l0 k l0 ([] : List Int) a1_4 0 a1_0 a1_1 a1_2 a1_3 a1_4) else (some (([] : List Int), 1)))
theorem raster_Draw.mono_l : ∀ k, (∀ y0 y1 y2 y3 y4 y5 y6 y7 y8, LeO (raster_Draw.l0 k y0 y1 y2 y3 y4 y5 y6 y7 y8) (raster_Draw.l0 (k + 1) y0 y1 y2 y3 y4 y5 y6 y7 y8)) ∧ (∀ y0 y1 y2 y3 y4 y5 y6 y7 y8 y9 y10 y11 y12, LeO (raster_Draw.l1 k y0 y1 y2 y3 y4 y5 y6 y7 y8 y9 y10 y11 y12) (raster_Draw.l1 (k + 1) y0 y1 y2 y3 y4 y5 y6 y7 y8 y9 y10 y11 y12)) ∧ (∀ y0 y1 y2 y3 y4 y5 y6 y7 y8 y9 y10 y11 y12 y13 y14 y15 y16, LeO (raster_Draw.l2 k y0 y1 y2 y3 y4 y5 y6 y7 y8 y9 y10 y11 y12 y13 y14 y15 y16) (raster_Draw.l2 (k + 1) y0 y1 y2 y3 y4 y5 y6 y7 y8 y9 y10 y11 y12 y13 y14 y15 y16))
 | 0 => ⟨fun _ _ _ _ _ _ _ _ _ r h => by simp [raster_Draw.l0] at h, fun _ _ _ _ _ _ _ _ _ _ _ _ _ r h => by simp [raster_Draw.l1] at h, fun _ _ _ _ _ _ _ _ _ _ _ _ _ _ _ _ _ r h => by simp [raster_Draw.l2] at h⟩
 | k + 1 => by
  obtain ⟨ih0, ih1, ih2⟩ := raster_Draw.mono_l k
  refine ⟨?_, ?_, ?_⟩
  ·intro y0 y1 y2 y3 y4 y5 y6 y7 y8
   unfold raster_Draw.l0
   repeat' first
   | (with_reducible exact ih0 _ _ _ _ _ _ _ _ _)
   | (with_reducible exact ih1 _ _ _ _ _ _ _ _ _ _ _ _ _)
   | (with_reducible exact ih2 _ _ _ _ _ _ _ _ _ _ _ _ _ _ _ _ _)
   | (with_reducible exact raster_Grid_right.mono _ _ _ _ _ _)
   | (with_reducible exact raster_Runs.mono _ _ _ _ _)
   | (with_reducible exact LeO.refl _)
   | (with_reducible exact LeO.none _)
   | (with_reducible refine LeO.ite ?_ ?_)
   | (with_reducible refine LeO.bind ?_ (fun _ => ?_))
   | exact ih0 _ _ _ _ _ _ _ _ _
   | exact ih1 _ _ _ _ _ _ _ _ _ _ _ _ _
   | exact ih2 _ _ _ _ _ _ _ _ _ _ _ _ _ _ _ _ _
   | exact raster_Grid_right.mono _ _ _ _ _ _
   | exact raster_Runs.mono _ _ _ _ _
   | exact LeO.none _
   | refine LeO.ite ?_ ?_
   | refine LeO.bind ?_ (fun _ => ?_)
  ·intro y0 y1 y2 y3 y4 y5 y6 y7 y8 y9 y10 y11 y12
   unfold raster_Draw.l1
   repeat' first
   | (with_reducible exact ih0 _ _ _ _ _ _ _ _ _)
   | (with_reducible exact ih1 _ _ _ _ _ _ _ _ _ _ _ _ _)
   | (with_reducible exact ih2 _ _ _ _ _ _ _ _ _ _ _ _ _ _ _ _ _)
   | (with_reducible exact raster_Grid_right.mono _ _ _ _ _ _)
   | (with_reducible exact raster_Runs.mono _ _ _ _ _)
   | (with_reducible exact LeO.refl _)
   | (with_reducible exact LeO.none _)
   | (with_reducible refine LeO.ite ?_ ?_)
   | (with_reducible refine LeO.bind ?_ (fun _ => ?_))
   | exact ih0 _ _ _ _ _ _ _ _ _
   | exact ih1 _ _ _ _ _ _ _ _ _ _ _ _ _
   | exact ih2 _ _ _ _ _ _ _ _ _ _ _ _ _ _ _ _ _
   | exact raster_Grid_right.mono _ _ _ _ _ _
   | exact raster_Runs.mono _ _ _ _ _
   | exact LeO.none _
   | refine LeO.ite ?_ ?_
   | refine LeO.bind ?_ (fun _ => ?_)
  ·intro y0 y1 y2 y3 y4 y5 y6 y7 y8 y9 y10 y11 y12 y13 y14 y15 y16
   unfold raster_Draw.l2
   repeat' first
   | (with_reducible exact ih0 _ _ _ _ _ _ _ _ _)
   | (with_reducible exact ih1 _ _ _ _ _ _ _ _ _ _ _ _ _)
   | (with_reducible exact ih2 _ _ _ _ _ _ _ _ _ _ _ _ _ _ _ _ _)
   | (with_reducible exact raster_Grid_right.mono _ _ _ _ _ _)
   | (with_reducible exact raster_Runs.mono _ _ _ _ _)
   | (with_reducible exact LeO.refl _)
   | (with_reducible exact LeO.none _)
   | (with_reducible refine LeO.ite ?_ ?_)
   | (with_reducible refine LeO.bind ?_ (fun _ => ?_))
   | exact ih0 _ _ _ _ _ _ _ _ _
   | exact ih1 _ _ _ _ _ _ _ _ _ _ _ _ _
   | exact ih2 _ _ _ _ _ _ _ _ _ _ _ _ _ _ _ _ _
   | exact raster_Grid_right.mono _ _ _ _ _ _
   | exact raster_Runs.mono _ _ _ _ _
   | exact LeO.none _
   | refine LeO.ite ?_ ?_
   | refine LeO.bind ?_ (fun _ => ?_)
theorem raster_Draw.mono : ∀ a0 a1 a2 a3 a4 a5 k, LeO (raster_Draw.f k a0 a1 a2 a3 a4 a5) (raster_Draw.f (k + 1) a0 a1 a2 a3 a4 a5) := by
 intro a0 a1 a2 a3 a4 a5 k
 obtain ⟨ih0, ih1, ih2⟩ := raster_Draw.mono_l k
 unfold raster_Draw.f
 repeat' first
   | (with_reducible exact ih0 _ _ _ _ _ _ _ _ _)
   | (with_reducible exact ih1 _ _ _ _ _ _ _ _ _ _ _ _ _)
   | (with_reducible exact ih2 _ _ _ _ _ _ _ _ _ _ _ _ _ _ _ _ _)
   | (with_reducible exact raster_Grid_right.mono _ _ _ _ _ _)
   | (with_reducible exact raster_Runs.mono _ _ _ _ _)
   | (with_reducible exact LeO.refl _)
   | (with_reducible exact LeO.none _)
   | (with_reducible refine LeO.ite ?_ ?_)
   | (with_reducible refine LeO.bind ?_ (fun _ => ?_))
   | exact ih0 _ _ _ _ _ _ _ _ _
   | exact ih1 _ _ _ _ _ _ _ _ _ _ _ _ _
   | exact ih2 _ _ _ _ _ _ _ _ _ _ _ _ _ _ _ _ _
   | exact raster_Grid_right.mono _ _ _ _ _ _
   | exact raster_Runs.mono _ _ _ _ _
   | exact LeO.none _
   | refine LeO.ite ?_ ?_
   | refine LeO.bind ?_ (fun _ => ?_)
set_option maxHeartbeats 8000000 in
set_option maxRecDepth 100000 in
theorem raster_Draw.calls (k : Nat) (A0 : Option Addr) (c0 : Nat) (l0 : List (S39)) (a1_0 : Int) (a1_1 : Int) (a1_2 : Int) (a1_3 : Int) (a1_4 : Int) (r1 : List Int) (r2 : Int) (w : World) (hr0 : Kd.C k39 w A0 l0.length l0) (hc0 : l0.length ≤ c0) (h : raster_Draw.f k l0 a1_0 a1_1 a1_2 a1_3 a1_4 = some (r1, r2)) :
  Calls Try.prog 28 #[.slice A0 l0.length c0, .agg #[.int .i64 a1_0, .int .i64 a1_1, .int .i64 a1_2, .int .i64 a1_3, .int .i64 a1_4]] w fun e w' => ∃ v0_ : Value, e = .returned (.tuple #[v0_, .int .i64 r2]) ∧ Kd.R (Kd.int .i64) 2 w' w.heap.size (fun _ => True) v0_ r1 ∧ Below w.heap.size w w' := by
 have hu44 := Try.underlying44
 have hu56 := Try.underlying56
 have HR0 := Aside0.mk hr0
 have HC0 := Aside0.mk hc0
 clear hr0 hc0
 have HB := Aside0.mk (Below.refl w.heap.size w)
 have H : ((raster_Grid_right.f k a1_0 a1_1 a1_2 a1_3 a1_4).bind fun t138 => (if t138 = true then (raster_Draw.l0 k l0 ([] : List Int) a1_4 0 a1_0 a1_1 a1_2 a1_3 a1_4) else (some (([] : List Int), 1)))) = some (r1, r2) := h
 clear h
 replace H := Option.bind_eq_some_iff.mp H
 obtain ⟨t138, A30, H⟩ := H
 replace H : (if t138 = true then (raster_Draw.l0 k l0 ([] : List Int) a1_4 0 a1_0 a1_1 a1_2 a1_3 a1_4) else (some (([] : List Int), 1))) = some (r1, r2) := H
 have A3 := Aside0.mk A30
 clear A30
 by_cases c4 : t138 = true
 ·subst c4
  have H1 : (raster_Draw.l0 k l0 ([] : List Int) a1_4 0 a1_0 a1_1 a1_2 a1_3 a1_4) = some (r1, r2) := by rw [if_pos rfl] at H; exact H
  clear H
  have H := H1
  clear H1
  have H' := Aside0.mk H
  clear H
  go_enter Try.func28, Try.ntmps28
  go_wp2_with (first | ((with_reducible refine gate_dst (N := 3) rfl ?_); refine box_event ?hg (N := 3) ?hd (cs := #[.int .i64 a1_0, .int .i64 a1_1, .int .i64 a1_2, .int .i64 a1_3, .int .i64 a1_4]) (t := 44) ?hr ?_; (case hd => rfl); (case hg => rfl); (case hr => first | (go_simp; done) | (go_simp; rfl)); intro gb137 hg w5 hbox hb; have n0_ := Aside0.mk (below_step (by repeat (first | (with_reducible first | exact HB.out | apply below_alloc | apply pw_below_drewN | apply below_drew1) | exact HB.out)) hb); have n1_ := Aside0.mk (hbox); have n2_ := Aside0.mk ((by rw [hg]; exact (below_size (by repeat (first | (with_reducible first | exact HB.out | apply below_alloc | apply pw_below_drewN | apply below_drew1) | exact HB.out))) : w.heap.size ≤ gb137)); have n3_ := Aside0.mk ((by rw [hg]; exact (below_size (by repeat (first | (with_reducible first | exact HB.out | apply below_alloc | apply pw_below_drewN | apply below_drew1) | exact HB.out))) : w.heap.size ≤ gb137)); clear HB; have HB := n0_; have BK137 := n1_; have GW137 := n2_; have GE137 := n3_; clear n0_ n1_ n2_ n3_; clear hb hbox hg; have hcz6_0 : w5.cell? ⟨gb137, 0, none⟩ = some (.int .i64 a1_0) := (blk_cell BK137.out 0).trans rfl; have hcz6_1 : w5.cell? ⟨gb137, 1, none⟩ = some (.int .i64 a1_1) := (blk_cell BK137.out 1).trans rfl; have hcz6_2 : w5.cell? ⟨gb137, 2, none⟩ = some (.int .i64 a1_2) := (blk_cell BK137.out 2).trans rfl; have hcz6_3 : w5.cell? ⟨gb137, 3, none⟩ = some (.int .i64 a1_3) := (blk_cell BK137.out 3).trans rfl; have hcz6_4 : w5.cell? ⟨gb137, 4, none⟩ = some (.int .i64 a1_4) := (blk_cell BK137.out 4).trans rfl; have hfz6_0 := blk_frozen BK137.out 0; have hfz6_1 := blk_frozen BK137.out 1; have hfz6_2 := blk_frozen BK137.out 2; have hfz6_3 := blk_frozen BK137.out 3; have hfz6_4 := blk_frozen BK137.out 4) | ((with_reducible refine gate_callee (f := 49) rfl ?_); refine goesL_ (some 14) rfl rfl Try.func49 (by kernel_rfl) rfl #[.agg #[.int .i64 a1_0, .int .i64 a1_1, .int .i64 a1_2, .int .i64 a1_3, .int .i64 a1_4]] rfl (by (try simp only [List.map_toArray, List.map_cons, List.map_nil]); first | done | rfl | (simp only [List.length_drop, List.length_take]; rfl)) ?_; (with_reducible refine (raster_Grid_right.calls k a1_0 a1_1 a1_2 a1_3 a1_4 true _ A3.out).mono ?_); rintro e w7 ⟨rfl, hb⟩; refine ⟨_, rfl, ?_⟩; have n0_ := Aside0.mk (blk_below (g := gb137) (o := .cells #[.int .i64 a1_0, .int .i64 a1_1, .int .i64 a1_2, .int .i64 a1_3, .int .i64 a1_4] 44 (0, 0)) (by (with_reducible repeat (first | refine blk_drewN ?_ _ | refine blk_drew ?_ | refine blk_alloc ?_ _)); exact BK137.out) hb); have n1_ := Aside0.mk (below_step (by repeat (first | (with_reducible first | exact HB.out | apply below_alloc | apply pw_below_drewN | apply below_drew1 | refine below_set ?_ GE137.out) | exact HB.out)) hb); clear BK137; clear HB; have BK137 := n0_; have HB := n1_; clear n0_ n1_; (try clear hb); (try clear hb2); (try clear hk); (try clear hi); have hcz8_0 : w7.cell? ⟨gb137, 0, none⟩ = some (.int .i64 a1_0) := (blk_cell BK137.out 0).trans rfl; have hcz8_1 : w7.cell? ⟨gb137, 1, none⟩ = some (.int .i64 a1_1) := (blk_cell BK137.out 1).trans rfl; have hcz8_2 : w7.cell? ⟨gb137, 2, none⟩ = some (.int .i64 a1_2) := (blk_cell BK137.out 2).trans rfl; have hcz8_3 : w7.cell? ⟨gb137, 3, none⟩ = some (.int .i64 a1_3) := (blk_cell BK137.out 3).trans rfl; have hcz8_4 : w7.cell? ⟨gb137, 4, none⟩ = some (.int .i64 a1_4) := (blk_cell BK137.out 4).trans rfl; have hfz8_0 := blk_frozen BK137.out 0; have hfz8_1 := blk_frozen BK137.out 1; have hfz8_2 := blk_frozen BK137.out 2; have hfz8_3 := blk_frozen BK137.out 3; have hfz8_4 := blk_frozen BK137.out 4))
  go_loopg [6, 18] k (fun kq v6 v18 w' => ∃ (x6_1 : List Int) (x18_1 : Int), v18 = .int .i64 x18_1 ∧ Aside0 (raster_Draw.l0 kq l0 x6_1 a1_4 x18_1 a1_0 a1_1 a1_2 a1_3 a1_4 = some (r1, r2)) ∧ Aside0 (kq ≤ k) ∧ Aside0 (Kd.R (Kd.int .i64) 2 w' w.heap.size (fun _ => True) v6 x6_1) ∧ Aside0 (w'.heap[gb137]? = some (.cells #[.int .i64 a1_0, .int .i64 a1_1, .int .i64 a1_2, .int .i64 a1_3, .int .i64 a1_4] 44 (0, 0))) ∧ Aside0 (Below w.heap.size w w'))
  case atStart => exact ⟨(([] : List Int)), (0), (by first | rfl | (simp; done) | (simp [*]; done)), H', ⟨Nat.le_refl _⟩, ⟨by first | exact Kd.R_nil _ _ _ _ _ | exact Kd.N_nil _ _ _ _ _ | exact Kd.V_nil _ _ _ _ _ | exact Kd.Q_nil _ _ _ _ _ | exact Kd.S_nil _ _ _ _ _⟩, ⟨by (with_reducible repeat (first | refine blk_drewN ?_ _ | refine blk_drew ?_ | refine blk_alloc ?_ _)); exact BK137.out⟩, ⟨by repeat (first | (with_reducible first | exact HB.out | apply below_alloc | apply pw_below_drewN | apply below_drew1 | refine below_set ?_ GE137.out) | exact HB.out)⟩⟩
  case round =>
   clear H'
   try clear c2
   try clear p2
   try clear c4
   try clear hcz6_0
   try clear hcz6_1
   try clear hcz6_2
   try clear hcz6_3
   try clear hcz6_4
   try clear hcz8_0
   try clear hcz8_1
   try clear hcz8_2
   try clear hcz8_3
   try clear hcz8_4
   try clear hfz6_0
   try clear hfz6_1
   try clear hfz6_2
   try clear hfz6_3
   try clear hfz6_4
   try clear hfz8_0
   try clear hfz8_1
   try clear hfz8_2
   try clear hfz8_3
   try clear hfz8_4
   obtain ⟨x6_1, x18_1, rfl, HA, HK1, HO_6, BK137, HB⟩ := hrel
   cases gk with
   | zero => exact absurd HA.out (by simp [raster_Draw.l0])
   | succ k1 =>
    have H := HA.out
    clear HA
    simp only [raster_Draw.l0] at H
    by_cases c9 : x18_1 < a1_4
    ·rw [if_pos c9] at H
     have c9b0 : decide (x18_1 < a1_4) = true := decide_eq_true c9
     clear c9
     by_cases c10 : 0 ≤ a1_3
     ·rw [if_pos c10] at H
      have c10b0 := eq_true c10
      have c10b1 : decide (0 ≤ a1_3) = true := decide_eq_true c10
      clear c10
      by_cases c11 : (a1_3 : Int).toNat ≤ 35184372088832
      ·rw [if_pos c11] at H
       have c11b0 := eq_true c11
       have c11b1 : decide ((a1_3 : Int).toNat ≤ 35184372088832) = true := decide_eq_true c11
       clear c11
       obtain ⟨y139, hy139⟩ : ∃ y_ : List Int, y_ = (List.replicate (a1_3 : Int).toNat 0) := ⟨_, rfl⟩
       replace H : ((raster_Runs.f k1 l0 (wrap64 (a1_1 + (wrap64 (x18_1 * a1_2)))) a1_0 (wrap64 (a1_0 + (wrap64 (a1_3 * a1_2))))).bind fun t142 => (raster_Draw.l1 k1 l0 x6_1 y139 a1_4 x18_1 t142 (t142.length : Int) 0 a1_0 a1_1 a1_2 a1_3 a1_4)) = some (r1, r2) := by first | (rw [hy139]; with_reducible exact H) | (have H2_ := (Option.bind_some _ _).symm.trans H; rw [hy139]; with_reducible exact H2_) | (have H2_ := (Option.bind_some _ _).symm.trans H; with_reducible exact H2_) | with_reducible exact H | (rw [hy139]; exact H) | exact H
       have Ny139 := Aside0.mk hy139
       clear hy139
       replace H := Option.bind_eq_some_iff.mp H
       obtain ⟨t142, A120, H⟩ := H
       replace H : (raster_Draw.l1 k1 l0 x6_1 y139 a1_4 x18_1 t142 (t142.length : Int) 0 a1_0 a1_1 a1_2 a1_3 a1_4) = some (r1, r2) := H
       have A12 := Aside0.mk A120
       clear A120
       have H' := Aside0.mk H
       clear H
       have hcz13_0 : wr.cell? ⟨gb137, 0, none⟩ = some (.int .i64 a1_0) := (blk_cell BK137.out 0).trans rfl
       have hcz13_1 : wr.cell? ⟨gb137, 1, none⟩ = some (.int .i64 a1_1) := (blk_cell BK137.out 1).trans rfl
       have hcz13_2 : wr.cell? ⟨gb137, 2, none⟩ = some (.int .i64 a1_2) := (blk_cell BK137.out 2).trans rfl
       have hcz13_3 : wr.cell? ⟨gb137, 3, none⟩ = some (.int .i64 a1_3) := (blk_cell BK137.out 3).trans rfl
       have hcz13_4 : wr.cell? ⟨gb137, 4, none⟩ = some (.int .i64 a1_4) := (blk_cell BK137.out 4).trans rfl
       have hfz13_0 := blk_frozen BK137.out 0
       have hfz13_1 := blk_frozen BK137.out 1
       have hfz13_2 := blk_frozen BK137.out 2
       have hfz13_3 := blk_frozen BK137.out 3
       have hfz13_4 := blk_frozen BK137.out 4
       go_wp2_with (first | ((with_reducible refine gate_dst (N := 30) rfl ?_); refine Kd.R_make (Kd.int .i64) _ 2 rfl (N := 30) rfl 47 _ _ rfl a1_3 rfl rfl Try.underlying47 (.int .i64 0) 8 info2 rfl (by decide) (by omega) 0 (ok := fun _ => True) (okp := fun _ => True) rfl (fun _ hk => hk) trivial (of_decide_eq_true (by first | (with_reducible assumption) | assumption)) (Nat.le_trans (Nat.mul_le_mul_right _ (of_decide_eq_true (by first | (with_reducible assumption) | assumption) : a1_3.toNat ≤ 35184372088832)) (by omega)) (Below.refl _ _) (Nat.le_refl _) ?_; intro v140 w14 ho15 hb hg_ hnew_; clear hg_ hnew_; (first | rw [← Ny139.out] at ho15 | (simp only [Int.reduceToNat] at ho15; rw [← Ny139.out] at ho15)); have n0_ := Aside0.mk (Kd.R_elder' (by (with_reducible repeat (first | apply Kd.R_alloc | apply Kd.R_drewN | apply Kd.R_drew)); exact HO_6.out) (Kd.R_base ho15) hb); have n1_ := Aside0.mk (Kd.R_lower (Kd.R_new' ho15 (Kd.R_lt (by (with_reducible repeat (first | apply Kd.R_alloc | apply Kd.R_drewN | apply Kd.R_drew)); exact HO_6.out))) (below_size (by repeat (first | (with_reducible first | exact HB.out | apply below_alloc | apply pw_below_drewN | apply below_drew1 | refine below_set ?_ GE137.out) | exact HB.out)))); have n2_ := Aside0.mk (blk_below (g := gb137) (o := .cells #[.int .i64 a1_0, .int .i64 a1_1, .int .i64 a1_2, .int .i64 a1_3, .int .i64 a1_4] 44 (0, 0)) (by (with_reducible repeat (first | refine blk_drewN ?_ _ | refine blk_drew ?_ | refine blk_alloc ?_ _)); exact BK137.out) hb); have n3_ := Aside0.mk (below_step (by repeat (first | (with_reducible first | exact HB.out | apply below_alloc | apply pw_below_drewN | apply below_drew1 | refine below_set ?_ GE137.out) | exact HB.out)) hb); clear HO_6; clear BK137; clear HB; have HO_6 := n0_; have HO141 := n1_; have BK137 := n2_; have HB := n3_; clear n0_ n1_ n2_ n3_; clear hb ho15; have hcz16_0 : w14.cell? ⟨gb137, 0, none⟩ = some (.int .i64 a1_0) := (blk_cell BK137.out 0).trans rfl; have hcz16_1 : w14.cell? ⟨gb137, 1, none⟩ = some (.int .i64 a1_1) := (blk_cell BK137.out 1).trans rfl; have hcz16_2 : w14.cell? ⟨gb137, 2, none⟩ = some (.int .i64 a1_2) := (blk_cell BK137.out 2).trans rfl; have hcz16_3 : w14.cell? ⟨gb137, 3, none⟩ = some (.int .i64 a1_3) := (blk_cell BK137.out 3).trans rfl; have hcz16_4 : w14.cell? ⟨gb137, 4, none⟩ = some (.int .i64 a1_4) := (blk_cell BK137.out 4).trans rfl; have hfz16_0 := blk_frozen BK137.out 0; have hfz16_1 := blk_frozen BK137.out 1; have hfz16_2 := blk_frozen BK137.out 2; have hfz16_3 := blk_frozen BK137.out 3; have hfz16_4 := blk_frozen BK137.out 4) | ((with_reducible refine gate_callee (f := 30) rfl ?_); refine goesL_ (some 43) rfl rfl Try.func30 (by kernel_rfl) rfl #[.slice A0 l0.length c0, .int .i64 (wrap64 (a1_1 + (wrap64 (x18_1 * a1_2)))), .int .i64 a1_0, .int .i64 (wrap64 (a1_0 + (wrap64 (a1_3 * a1_2))))] rfl (by (try simp only [List.map_toArray, List.map_cons, List.map_nil]); first | done | rfl | (simp only [List.length_drop, List.length_take]; rfl)) ?_; (with_reducible refine (raster_Runs.calls k1 _ _ l0 (wrap64 (a1_1 + (wrap64 (x18_1 * a1_2)))) a1_0 (wrap64 (a1_0 + (wrap64 (a1_3 * a1_2)))) t142 _ ?side1 ?side2 A12.out).mono ?_); (case side1 => repeat (first | exact (Kd.C_below HR0.out HB.out) | (with_reducible refine Kd.C_alloc ?_ _) | (with_reducible refine Kd.C_drewN ?_ _) | (with_reducible refine Kd.C_drew ?_))); (case side2 => exact HC0.out); rintro e w17 ⟨v143, rfl, ho0, hb⟩; refine ⟨_, rfl, ?_⟩; have n0_ := Aside0.mk (Kd.R_below (by (with_reducible repeat (first | apply Kd.R_alloc | apply Kd.R_drewN | apply Kd.R_drew)); exact HO_6.out) hb); have n1_ := Aside0.mk (Kd.R_below (by (with_reducible repeat (first | apply Kd.R_alloc | apply Kd.R_drewN | apply Kd.R_drew)); exact HO141.out) hb); have n2_ := Aside0.mk (Kd.R_lower ho0 (below_size (by repeat (first | (with_reducible first | exact HB.out | apply below_alloc | apply pw_below_drewN | apply below_drew1 | refine below_set ?_ GE137.out) | exact HB.out)))); have n3_ := Aside0.mk (blk_below (g := gb137) (o := .cells #[.int .i64 a1_0, .int .i64 a1_1, .int .i64 a1_2, .int .i64 a1_3, .int .i64 a1_4] 44 (0, 0)) (by (with_reducible repeat (first | refine blk_drewN ?_ _ | refine blk_drew ?_ | refine blk_alloc ?_ _)); exact BK137.out) hb); have n4_ := Aside0.mk (below_step (by repeat (first | (with_reducible first | exact HB.out | apply below_alloc | apply pw_below_drewN | apply below_drew1 | refine below_set ?_ GE137.out) | exact HB.out)) hb); clear HO_6; clear HO141; clear BK137; clear HB; have HO_6 := n0_; have HO141 := n1_; have HO144 := n2_; have BK137 := n3_; have HB := n4_; clear n0_ n1_ n2_ n3_ n4_; (try clear hb); (try clear hb2); (try clear hk); (try clear hi); (try clear ho0); obtain ⟨Ao18, co18, eo18⟩ := Kd.R_slice HO144.out; subst eo18))
       go_loopg [45] k1 (fun kq v45 w' => ∃ (x9_2 : List Int) (x45_2 : Int), v45 = .int .i64 x45_2 ∧ Aside0 (raster_Draw.l1 kq l0 x6_1 x9_2 a1_4 x18_1 t142 (t142.length : Int) x45_2 a1_0 a1_1 a1_2 a1_3 a1_4 = some (r1, r2)) ∧ Aside0 (kq ≤ k1) ∧ Aside0 (Kd.R (Kd.int .i64) 2 w' w.heap.size (fun k_ => some k_ ≠ (v140 : Value).ownBlock) u6 x6_1) ∧ Aside0 (Kd.R (Kd.int .i64) 2 w' w.heap.size (fun k_ => some k_ ≠ (u6 : Value).ownBlock) v140 x9_2) ∧ Aside0 (Kd.R k56 56 w' w.heap.size (fun _ => True) (.slice Ao18 t142.length co18) t142) ∧ Aside0 (w'.heap[gb137]? = some (.cells #[.int .i64 a1_0, .int .i64 a1_1, .int .i64 a1_2, .int .i64 a1_3, .int .i64 a1_4] 44 (0, 0))) ∧ Aside0 (Below w.heap.size w w'))
       case atStart => exact ⟨(y139), (0), (by first | rfl | (simp; done) | (simp [*]; done)), H', ⟨Nat.le_refl _⟩, ⟨by (with_reducible repeat (first | apply Kd.R_alloc | apply Kd.R_drewN | apply Kd.R_drew)); exact Kd.R_mono HO_6.out (fun _ hk => hk.2)⟩, ⟨by (with_reducible repeat (first | apply Kd.R_alloc | apply Kd.R_drewN | apply Kd.R_drew)); exact Kd.R_mono HO141.out (fun _ hk => hk.2)⟩, ⟨by (with_reducible repeat (first | apply Kd.R_alloc | apply Kd.R_drewN | apply Kd.R_drew)); exact HO144.out⟩, ⟨by (with_reducible repeat (first | refine blk_drewN ?_ _ | refine blk_drew ?_ | refine blk_alloc ?_ _)); exact BK137.out⟩, ⟨by repeat (first | (with_reducible first | exact HB.out | apply below_alloc | apply pw_below_drewN | apply below_drew1 | refine below_set ?_ GE137.out) | exact HB.out)⟩⟩
       case round =>
        clear H'
        try clear c1
        try clear c2
        try clear p2
        try clear c3
        try clear c4
        try clear p6
        try clear c9
        try clear c9b0
        try clear c10
        try clear c10b0
        try clear c10b1
        try clear c11
        try clear c11b0
        try clear c11b1
        try clear hcz13_0
        try clear hcz13_1
        try clear hcz13_2
        try clear hcz13_3
        try clear hcz13_4
        try clear hcz16_0
        try clear hcz16_1
        try clear hcz16_2
        try clear hcz16_3
        try clear hcz16_4
        try clear hcz6_0
        try clear hcz6_1
        try clear hcz6_2
        try clear hcz6_3
        try clear hcz6_4
        try clear hcz8_0
        try clear hcz8_1
        try clear hcz8_2
        try clear hcz8_3
        try clear hcz8_4
        try clear hfz13_0
        try clear hfz13_1
        try clear hfz13_2
        try clear hfz13_3
        try clear hfz13_4
        try clear hfz16_0
        try clear hfz16_1
        try clear hfz16_2
        try clear hfz16_3
        try clear hfz16_4
        try clear hfz6_0
        try clear hfz6_1
        try clear hfz6_2
        try clear hfz6_3
        try clear hfz6_4
        try clear hfz8_0
        try clear hfz8_1
        try clear hfz8_2
        try clear hfz8_3
        try clear hfz8_4
        try clear p2
        obtain ⟨x9_2, x45_2, rfl, HA, HK2, HO_6, HO_9, HO_43, BK137, HB⟩ := hrel
        cases gk with
        | zero => exact absurd HA.out (by simp [raster_Draw.l1])
        | succ k2 =>
         have H := HA.out
         clear HA
         simp only [raster_Draw.l1] at H
         by_cases c19 : x45_2 < (t142.length : Int)
         ·rw [if_pos c19] at H
          have c19b0 : decide (x45_2 < (t142.length : Int)) = true := decide_eq_true c19
          clear c19
          by_cases c20 : 0 ≤ x45_2
          ·rw [if_pos c20] at H
           have c20b0 : decide (0 ≤ x45_2) = true := decide_eq_true c20
           clear c20
           by_cases c21 : x45_2 < (t142.length : Int)
           ·rw [if_pos c21] at H
            have c21b0 : decide (x45_2 < (t142.length : Int)) = true := decide_eq_true c21
            clear c21
            by_cases c22 : a1_2 = 0
            ·rw [if_pos c22] at H
             exact absurd H (by simp)
            ·rw [if_neg c22] at H
             have c22b0 : (a1_2 == 0) = false := beq_eq_false_iff_ne.mpr c22
             have c22b1 : (a1_2 != 0) = true := bne_iff_ne.mpr c22
             have H' := Aside0.mk H
             clear H
             have p148 : 0 ≤ (x45_2 : Int) := of_decide_eq_true (by first | (with_reducible assumption) | assumption)
             have q148 : x45_2 < (t142.length : Int) := of_decide_eq_true (by first | (with_reducible assumption) | assumption)
             obtain ⟨ad148, e148, hx148_0, hx148_1, hx148_2⟩ := at_T56 (Kd.R_reads' HO_43.out).2.2 x45_2 p148 q148
             cases e148
             replace p148 := eq_true p148
             replace q148 := eq_true q148
             go_wp2_with (first | ((with_reducible refine gate_dst (N := 11) rfl ?_); refine box_event ?hg (N := 11) ?hd (cs := #[.int .i64 0, .int .i64 0, .int .i64 0]) (t := 56) ?hr ?_; (case hd => rfl); (case hg => rfl); (case hr => first | (go_simp; done) | (go_simp; rfl)); intro gb149 hg w23 hbox hb; have n0_ := Aside0.mk (Kd.R_below (by (with_reducible repeat (first | apply Kd.R_alloc | apply Kd.R_drewN | apply Kd.R_drew)); exact HO_6.out) hb); have n1_ := Aside0.mk (Kd.R_below (by (with_reducible repeat (first | apply Kd.R_alloc | apply Kd.R_drewN | apply Kd.R_drew)); exact HO_9.out) hb); have n2_ := Aside0.mk (Kd.R_below (Kd.R_elderB (by (with_reducible repeat (first | apply Kd.R_alloc | apply Kd.R_drewN | apply Kd.R_drew)); exact HO_43.out) gb149 (Nat.le_of_eq hg.symm)) hb); have n3_ := Aside0.mk (blk_below (g := gb137) (o := .cells #[.int .i64 a1_0, .int .i64 a1_1, .int .i64 a1_2, .int .i64 a1_3, .int .i64 a1_4] 44 (0, 0)) (by (with_reducible repeat (first | refine blk_drewN ?_ _ | refine blk_drew ?_ | refine blk_alloc ?_ _)); exact BK137.out) hb); have n4_ := Aside0.mk (below_step (by repeat (first | (with_reducible first | exact HB.out | apply below_alloc | apply pw_below_drewN | apply below_drew1 | refine below_set ?_ GE137.out) | exact HB.out)) hb); have n5_ := Aside0.mk (hbox); have n6_ := Aside0.mk ((by rw [hg]; exact (below_size (by repeat (first | (with_reducible first | exact HB.out | apply below_alloc | apply pw_below_drewN | apply below_drew1 | refine below_set ?_ GE137.out) | exact HB.out))) : w.heap.size ≤ gb149)); have n7_ := Aside0.mk ((by rw [hg]; exact (below_size (by repeat (first | (with_reducible first | exact HB.out | apply below_alloc | apply pw_below_drewN | apply below_drew1 | refine below_set ?_ GE137.out) | exact HB.out))) : w.heap.size ≤ gb149)); have n8_ := Aside0.mk ((by rw [hg]; exact Nat.ne_of_lt (blk_lt (g := gb137) (o := .cells #[.int .i64 a1_0, .int .i64 a1_1, .int .i64 a1_2, .int .i64 a1_3, .int .i64 a1_4] 44 (0, 0)) (by (with_reducible repeat (first | refine blk_drewN ?_ _ | refine blk_drew ?_ | refine blk_alloc ?_ _)); exact BK137.out)) : gb137 ≠ gb149)); have n9_ := Aside0.mk ((by rw [hg]; exact Nat.ne_of_gt (blk_lt (g := gb137) (o := .cells #[.int .i64 a1_0, .int .i64 a1_1, .int .i64 a1_2, .int .i64 a1_3, .int .i64 a1_4] 44 (0, 0)) (by (with_reducible repeat (first | refine blk_drewN ?_ _ | refine blk_drew ?_ | refine blk_alloc ?_ _)); exact BK137.out)) : gb149 ≠ gb137)); clear HO_6; clear HO_9; clear HO_43; clear BK137; clear HB; have HO_6 := n0_; have HO_9 := n1_; have HO_43 := n2_; have BK137 := n3_; have HB := n4_; have BK149 := n5_; have GW149 := n6_; have GE149 := n7_; have NB137_149 := n8_; have NB149_137 := n9_; clear n0_ n1_ n2_ n3_ n4_ n5_ n6_ n7_ n8_ n9_; clear hb hbox hg; have hnb24 := NB149_137.out; have hnc24 := NB137_149.out; have hcz25_0 : w23.cell? ⟨gb149, 0, none⟩ = some (.int .i64 0) := (blk_cell BK149.out 0).trans rfl; have hcz25_1 : w23.cell? ⟨gb149, 1, none⟩ = some (.int .i64 0) := (blk_cell BK149.out 1).trans rfl; have hcz25_2 : w23.cell? ⟨gb149, 2, none⟩ = some (.int .i64 0) := (blk_cell BK149.out 2).trans rfl; have hfz25_0 := blk_frozen BK149.out 0; have hfz25_1 := blk_frozen BK149.out 1; have hfz25_2 := blk_frozen BK149.out 2; have hcz26_0 : w23.cell? ⟨gb137, 0, none⟩ = some (.int .i64 a1_0) := (blk_cell BK137.out 0).trans rfl; have hcz26_1 : w23.cell? ⟨gb137, 1, none⟩ = some (.int .i64 a1_1) := (blk_cell BK137.out 1).trans rfl; have hcz26_2 : w23.cell? ⟨gb137, 2, none⟩ = some (.int .i64 a1_2) := (blk_cell BK137.out 2).trans rfl; have hcz26_3 : w23.cell? ⟨gb137, 3, none⟩ = some (.int .i64 a1_3) := (blk_cell BK137.out 3).trans rfl; have hcz26_4 : w23.cell? ⟨gb137, 4, none⟩ = some (.int .i64 a1_4) := (blk_cell BK137.out 4).trans rfl; have hfz26_0 := blk_frozen BK137.out 0; have hfz26_1 := blk_frozen BK137.out 1; have hfz26_2 := blk_frozen BK137.out 2; have hfz26_3 := blk_frozen BK137.out 3; have hfz26_4 := blk_frozen BK137.out 4))
             go_loopg [12] k2 (fun kq v12 w' => ∃ (x9_3 : List Int) (x12_3 : Int), v12 = .int .i64 x12_3 ∧ Aside0 (raster_Draw.l2 kq l0 x6_1 x9_3 x12_3 a1_4 x18_1 t142 (t142.length : Int) x45_2 a1_0 a1_1 a1_2 a1_3 a1_4 ((rd_T56 t142 x45_2).f0) ((rd_T56 t142 x45_2).f1) ((rd_T56 t142 x45_2).f2) = some (r1, r2)) ∧ Aside0 (kq ≤ k2) ∧ Aside0 (Kd.R (Kd.int .i64) 2 w' w.heap.size (fun k_ => some k_ ≠ (v140 : Value).ownBlock) u6 x6_1) ∧ Aside0 (Kd.R (Kd.int .i64) 2 w' w.heap.size (fun k_ => some k_ ≠ (u6 : Value).ownBlock) v140 x9_3) ∧ Aside0 (Kd.R k56 56 w' w.heap.size (fun k_ => k_ ≠ gb149) (.slice (some ad148) t142.length co18) t142) ∧ Aside0 (w'.heap[gb137]? = some (.cells #[.int .i64 a1_0, .int .i64 a1_1, .int .i64 a1_2, .int .i64 a1_3, .int .i64 a1_4] 44 (0, 0))) ∧ Aside0 (w'.heap[gb149]? = some (.cells #[.int .i64 ((rd_T56 t142 x45_2).f0), .int .i64 ((rd_T56 t142 x45_2).f1), .int .i64 ((rd_T56 t142 x45_2).f2)] 56 (0, 0))) ∧ Aside0 (Below w.heap.size w w'))
             case atStart => exact ⟨(x9_2), (wrap64 (Int.tdiv (wrap64 ((wrap64 ((wrap64 (((rd_T56 t142 x45_2).f0) - a1_0)) + a1_2)) - 1)) a1_2)), (by first | rfl | (simp; done) | (simp [*]; done)), H', ⟨Nat.le_refl _⟩, ⟨by (with_reducible repeat (first | apply Kd.R_alloc | apply Kd.R_drewN | apply Kd.R_drew)); exact Kd.R_mono (Kd.R_far (p := ⟨gb149, 2, none⟩) (Kd.R_far (p := ⟨gb149, 1, none⟩) (Kd.R_far (p := ⟨gb149, 0, none⟩) (Kd.R_types HO_6.out BK149.out (by decide)) (fun _ hk => hk.2) (.int .i64 ((rd_T56 t142 x45_2).f0))) (fun _ hk => hk.2) (.int .i64 ((rd_T56 t142 x45_2).f1))) (fun _ hk => hk.2) (.int .i64 ((rd_T56 t142 x45_2).f2))) (fun _ hk => hk.1)⟩, ⟨by (with_reducible repeat (first | apply Kd.R_alloc | apply Kd.R_drewN | apply Kd.R_drew)); exact Kd.R_mono (Kd.R_far (p := ⟨gb149, 2, none⟩) (Kd.R_far (p := ⟨gb149, 1, none⟩) (Kd.R_far (p := ⟨gb149, 0, none⟩) (Kd.R_types HO_9.out BK149.out (by decide)) (fun _ hk => hk.2) (.int .i64 ((rd_T56 t142 x45_2).f0))) (fun _ hk => hk.2) (.int .i64 ((rd_T56 t142 x45_2).f1))) (fun _ hk => hk.2) (.int .i64 ((rd_T56 t142 x45_2).f2))) (fun _ hk => hk.1)⟩, ⟨by (with_reducible repeat (first | apply Kd.R_alloc | apply Kd.R_drewN | apply Kd.R_drew)); exact Kd.R_mono (Kd.R_far (p := ⟨gb149, 2, none⟩) (Kd.R_far (p := ⟨gb149, 1, none⟩) (Kd.R_far (p := ⟨gb149, 0, none⟩) (Kd.R_mono HO_43.out (fun k_ hk => (⟨hk, hk.2⟩ : _ ∧ k_ ≠ gb149))) (fun _ hk => hk.2) (.int .i64 ((rd_T56 t142 x45_2).f0))) (fun _ hk => hk.2) (.int .i64 ((rd_T56 t142 x45_2).f1))) (fun _ hk => hk.2) (.int .i64 ((rd_T56 t142 x45_2).f2))) (fun _ hk => hk.1.2)⟩, ⟨by (with_reducible repeat (first | refine blk_drewN ?_ _ | refine blk_drew ?_ | refine blk_alloc ?_ _)); refine blk_far ?_ NB137_149.out _; (with_reducible repeat (first | refine blk_drewN ?_ _ | refine blk_drew ?_ | refine blk_alloc ?_ _)); refine blk_far ?_ NB137_149.out _; (with_reducible repeat (first | refine blk_drewN ?_ _ | refine blk_drew ?_ | refine blk_alloc ?_ _)); refine blk_far ?_ NB137_149.out _; (with_reducible repeat (first | refine blk_drewN ?_ _ | refine blk_drew ?_ | refine blk_alloc ?_ _)); exact BK137.out⟩, ⟨by (with_reducible repeat (first | refine blk_drewN ?_ _ | refine blk_drew ?_ | refine blk_alloc ?_ _)); refine blk_put (cs := #[.int .i64 ((rd_T56 t142 x45_2).f0), .int .i64 ((rd_T56 t142 x45_2).f1), .int .i64 0]) ?_ 2 _ rfl; (with_reducible repeat (first | refine blk_drewN ?_ _ | refine blk_drew ?_ | refine blk_alloc ?_ _)); refine blk_put (cs := #[.int .i64 ((rd_T56 t142 x45_2).f0), .int .i64 0, .int .i64 0]) ?_ 1 _ rfl; (with_reducible repeat (first | refine blk_drewN ?_ _ | refine blk_drew ?_ | refine blk_alloc ?_ _)); refine blk_put (cs := #[.int .i64 0, .int .i64 0, .int .i64 0]) ?_ 0 _ rfl; (with_reducible repeat (first | refine blk_drewN ?_ _ | refine blk_drew ?_ | refine blk_alloc ?_ _)); exact BK149.out⟩, ⟨by repeat (first | (with_reducible first | exact HB.out | apply below_alloc | apply pw_below_drewN | apply below_drew1 | refine below_set ?_ GE137.out | refine below_set ?_ GE149.out) | exact HB.out)⟩⟩
             case round =>
              clear H'
              try clear c1
              try clear p1
              try clear q1
              try clear hx1
              try clear c2
              try clear p2
              try clear c3
              try clear c4
              try clear p6
              try clear c9
              try clear c9b0
              try clear c10
              try clear c10b0
              try clear c10b1
              try clear c11
              try clear c11b0
              try clear c11b1
              try clear p14
              try clear q14
              try clear hx14
              try clear c19
              try clear c19b0
              try clear c20
              try clear c20b0
              try clear c21
              try clear c21b0
              try clear c22
              try clear c22b0
              try clear c22b1
              try clear c24
              try clear hcz13_0
              try clear hcz13_1
              try clear hcz13_2
              try clear hcz13_3
              try clear hcz13_4
              try clear hcz16_0
              try clear hcz16_1
              try clear hcz16_2
              try clear hcz16_3
              try clear hcz16_4
              try clear hcz25_0
              try clear hcz25_1
              try clear hcz25_2
              try clear hcz26_0
              try clear hcz26_1
              try clear hcz26_2
              try clear hcz26_3
              try clear hcz26_4
              try clear hcz6_0
              try clear hcz6_1
              try clear hcz6_2
              try clear hcz6_3
              try clear hcz6_4
              try clear hcz8_0
              try clear hcz8_1
              try clear hcz8_2
              try clear hcz8_3
              try clear hcz8_4
              try clear hfz13_0
              try clear hfz13_1
              try clear hfz13_2
              try clear hfz13_3
              try clear hfz13_4
              try clear hfz16_0
              try clear hfz16_1
              try clear hfz16_2
              try clear hfz16_3
              try clear hfz16_4
              try clear hfz25_0
              try clear hfz25_1
              try clear hfz25_2
              try clear hfz26_0
              try clear hfz26_1
              try clear hfz26_2
              try clear hfz26_3
              try clear hfz26_4
              try clear hfz6_0
              try clear hfz6_1
              try clear hfz6_2
              try clear hfz6_3
              try clear hfz6_4
              try clear hfz8_0
              try clear hfz8_1
              try clear hfz8_2
              try clear hfz8_3
              try clear hfz8_4
              try clear hx148_0
              try clear hx148_1
              try clear hx148_2
              try clear p148
              try clear p2
              try clear p6
              try clear q148
              obtain ⟨x9_3, x12_3, rfl, HA, HK3, HO_6, HO_9, HO_43, BK137, BK149, HB⟩ := hrel
              cases gk with
              | zero => exact absurd HA.out (by simp [raster_Draw.l2])
              | succ k3 =>
               have H := HA.out
               clear HA
               simp only [raster_Draw.l2] at H
               by_cases c27 : x12_3 < a1_3
               ·rw [if_pos c27] at H
                have c27b0 : decide (x12_3 < a1_3) = true := decide_eq_true c27
                clear c27
                by_cases c28 : (wrap64 (a1_0 + (wrap64 (x12_3 * a1_2)))) < ((rd_T56 t142 x45_2).f1)
                ·rw [if_pos c28] at H
                 have c28b0 : decide ((wrap64 (a1_0 + (wrap64 (x12_3 * a1_2)))) < ((rd_T56 t142 x45_2).f1)) = true := decide_eq_true c28
                 clear c28
                 by_cases c29 : 0 ≤ ((rd_T56 t142 x45_2).f2)
                 ·rw [if_pos c29] at H
                  have c29b0 : decide (0 ≤ ((rd_T56 t142 x45_2).f2)) = true := decide_eq_true c29
                  clear c29
                  by_cases c30 : ((rd_T56 t142 x45_2).f2) < (l0.length : Int)
                  ·rw [if_pos c30] at H
                   have c30b0 : decide (((rd_T56 t142 x45_2).f2) < (l0.length : Int)) = true := decide_eq_true c30
                   clear c30
                   by_cases c31 : 0 ≤ x12_3
                   ·rw [if_pos c31] at H
                    have c31b0 : decide (0 ≤ x12_3) = true := decide_eq_true c31
                    clear c31
                    by_cases c32 : x12_3 < (x9_3.length : Int)
                    ·rw [if_pos c32] at H
                     have c32b0 : decide (x12_3 < (x9_3.length : Int)) = true := decide_eq_true c32
                     clear c32
                     obtain ⟨y151, hy151⟩ : ∃ y_ : List Int, y_ = (x9_3.set (x12_3 : Int).toNat ((rd_T39 l0 ((rd_T56 t142 x45_2).f2)).f5)) := ⟨_, rfl⟩
                     replace H : (raster_Draw.l2 k3 l0 x6_1 y151 (wrap64 (x12_3 + 1)) a1_4 x18_1 t142 (t142.length : Int) x45_2 a1_0 a1_1 a1_2 a1_3 a1_4 ((rd_T56 t142 x45_2).f0) ((rd_T56 t142 x45_2).f1) ((rd_T56 t142 x45_2).f2)) = some (r1, r2) := by first | (rw [hy151]; with_reducible exact H) | (have H2_ := (Option.bind_some _ _).symm.trans H; rw [hy151]; with_reducible exact H2_) | (have H2_ := (Option.bind_some _ _).symm.trans H; with_reducible exact H2_) | with_reducible exact H | (rw [hy151]; exact H) | exact H
                     have Ny151 := Aside0.mk hy151
                     clear hy151
                     have H' := Aside0.mk H
                     clear H
                     have hnb34 := NB137_149.out
                     have hnc34 := NB149_137.out
                     have hcz35_0 : wr.cell? ⟨gb137, 0, none⟩ = some (.int .i64 a1_0) := (blk_cell BK137.out 0).trans rfl
                     have hcz35_1 : wr.cell? ⟨gb137, 1, none⟩ = some (.int .i64 a1_1) := (blk_cell BK137.out 1).trans rfl
                     have hcz35_2 : wr.cell? ⟨gb137, 2, none⟩ = some (.int .i64 a1_2) := (blk_cell BK137.out 2).trans rfl
                     have hcz35_3 : wr.cell? ⟨gb137, 3, none⟩ = some (.int .i64 a1_3) := (blk_cell BK137.out 3).trans rfl
                     have hcz35_4 : wr.cell? ⟨gb137, 4, none⟩ = some (.int .i64 a1_4) := (blk_cell BK137.out 4).trans rfl
                     have hfz35_0 := blk_frozen BK137.out 0
                     have hfz35_1 := blk_frozen BK137.out 1
                     have hfz35_2 := blk_frozen BK137.out 2
                     have hfz35_3 := blk_frozen BK137.out 3
                     have hfz35_4 := blk_frozen BK137.out 4
                     have hcz36_0 : wr.cell? ⟨gb149, 0, none⟩ = some (.int .i64 ((rd_T56 t142 x45_2).f0)) := (blk_cell BK149.out 0).trans rfl
                     have hcz36_1 : wr.cell? ⟨gb149, 1, none⟩ = some (.int .i64 ((rd_T56 t142 x45_2).f1)) := (blk_cell BK149.out 1).trans rfl
                     have hcz36_2 : wr.cell? ⟨gb149, 2, none⟩ = some (.int .i64 ((rd_T56 t142 x45_2).f2)) := (blk_cell BK149.out 2).trans rfl
                     have hfz36_0 := blk_frozen BK149.out 0
                     have hfz36_1 := blk_frozen BK149.out 1
                     have hfz36_2 := blk_frozen BK149.out 2
                     have p150 : 0 ≤ (((rd_T56 t142 x45_2).f2) : Int) := of_decide_eq_true (by first | (with_reducible assumption) | assumption)
                     have q150 : ((rd_T56 t142 x45_2).f2) < (l0.length : Int) := of_decide_eq_true (by first | (with_reducible assumption) | assumption)
                     obtain ⟨ad150, e150, hx150_0, hx150_1, hx150_2, hx150_3, hx150_4, hx150_5, hx150_6, hx150_7, hx150_8, hx150_9, hx150_10, hx150_11, hx150_12, hx150_13, hx150_14⟩ := at_T39 HR0.out ((rd_T56 t142 x45_2).f2) p150 q150
                     cases e150
                     replace hx150_0 := (HB.out.cell (World.block_lt_of_cell? w _ hx150_0)).trans hx150_0
                     replace hx150_1 := (HB.out.cell (World.block_lt_of_cell? w _ hx150_1)).trans hx150_1
                     replace hx150_2 := (HB.out.cell (World.block_lt_of_cell? w _ hx150_2)).trans hx150_2
                     replace hx150_3 := (HB.out.cell (World.block_lt_of_cell? w _ hx150_3)).trans hx150_3
                     replace hx150_4 := (HB.out.cell (World.block_lt_of_cell? w _ hx150_4)).trans hx150_4
                     replace hx150_5 := (HB.out.cell (World.block_lt_of_cell? w _ hx150_5)).trans hx150_5
                     replace hx150_6 := (HB.out.cell (World.block_lt_of_cell? w _ hx150_6)).trans hx150_6
                     replace hx150_7 := (HB.out.cell (World.block_lt_of_cell? w _ hx150_7)).trans hx150_7
                     replace hx150_8 := (HB.out.cell (World.block_lt_of_cell? w _ hx150_8)).trans hx150_8
                     replace hx150_9 := (HB.out.cell (World.block_lt_of_cell? w _ hx150_9)).trans hx150_9
                     replace hx150_10 := (HB.out.cell (World.block_lt_of_cell? w _ hx150_10)).trans hx150_10
                     replace hx150_11 := (HB.out.cell (World.block_lt_of_cell? w _ hx150_11)).trans hx150_11
                     replace hx150_12 := (HB.out.cell (World.block_lt_of_cell? w _ hx150_12)).trans hx150_12
                     replace hx150_13 := (HB.out.cell (World.block_lt_of_cell? w _ hx150_13)).trans hx150_13
                     replace hx150_14 := (HB.out.cell (World.block_lt_of_cell? w _ hx150_14)).trans hx150_14
                     replace p150 := eq_true p150
                     replace q150 := eq_true q150
                     have p33 : 0 ≤ (x12_3 : Int) := of_decide_eq_true (by first | (with_reducible assumption) | assumption)
                     have q33 : (x12_3 : Int) < ((x9_3.length : Int) : Int) := of_decide_eq_true (by first | (with_reducible assumption) | assumption)
                     obtain ⟨go33, co33, eo33, gb33, gl33, cl33, HG33⟩ := Kd.R_form HO_9.out (by omega)
                     (first | cases eo33 | (injection eo33 with ea_ en_ ec_; (first | subst ea_ | (injection ea_ with ea_; subst ea_)); subst ec_; clear en_))
                     have GB33 := Aside0.mk gb33
                     have GG33 := Aside0.mk HG33
                     clear gb33 gl33 HG33
                     obtain ⟨hx33_0, hf33_0⟩ := Kd.R_celln 0 HO_9.out (x12_3 : Int) p33 q33
                     replace p33 := eq_true p33
                     replace q33 := eq_true q33
                     have HP37 := Kd.R_putg HO_9.out (x12_3 : Int) ((rd_T39 l0 ((rd_T56 t142 x45_2).f2)).f5)
                     go_wp2_with (first | ((with_reducible refine gate_store (t := 2) (p := 87) rfl ?_); refine store_event (t := 2) (p := 87) (v := ?vo_w38) (w1 := (wr.setCell ⟨go33, (x12_3 : Int).toNat, none⟩ (.int .i64 ((rd_T39 l0 ((rd_T56 t142 x45_2).f2)).f5)))) ?hg ?ho ?hn ?hr ?_; (case ho => rfl); (case hg => rfl); (case hn => rfl); (case hr => first | (go_simp; done) | (go_simp; rfl)); intro w38 hw; have hg : wr.grownBy w38 (some go33) := (by rw [hw]; exact HP37.2); have hp_ : Kd.R (Kd.int .i64) 2 w38 w.heap.size (fun k_ => some k_ ≠ (u6 : Value).ownBlock) (.slice (some ⟨go33, 0, none⟩) x9_3.length co33) y151 := (by rw [hw, Ny151.out]; exact HP37.1); clear HP37; have n0_ := Aside0.mk (Kd.R_after (v := (.slice (some ⟨go33, 0, none⟩) x9_3.length co33)) (v1 := (.slice (some ⟨go33, 0, none⟩) x9_3.length co33)) (ok := (fun _ => True)) (by (with_reducible repeat (first | apply Kd.R_alloc | apply Kd.R_drewN | apply Kd.R_drew)); exact Kd.R_mono HO_6.out (fun _ hk => ⟨trivial, hk⟩)) hg (.inl rfl)); have n1_ := Aside0.mk (hp_); have n2_ := Aside0.mk (Kd.R_over' (v := (.slice (some ⟨go33, 0, none⟩) x9_3.length co33)) (by (with_reducible repeat (first | apply Kd.R_alloc | apply Kd.R_drewN | apply Kd.R_drew)); exact HO_43.out) (Kd.R_typed HO_9.out) (by decide) hg); have n3_ := Aside0.mk (blk_grown (g := gb137) (o := .cells #[.int .i64 a1_0, .int .i64 a1_1, .int .i64 a1_2, .int .i64 a1_3, .int .i64 a1_4] 44 (0, 0)) (by (with_reducible repeat (first | refine blk_drewN ?_ _ | refine blk_drew ?_ | refine blk_alloc ?_ _)); exact BK137.out) hg (Kd.R_ne HO_9.out BK137.out (by decide))); have n4_ := Aside0.mk (blk_grown (g := gb149) (o := .cells #[.int .i64 ((rd_T56 t142 x45_2).f0), .int .i64 ((rd_T56 t142 x45_2).f1), .int .i64 ((rd_T56 t142 x45_2).f2)] 56 (0, 0)) (by (with_reducible repeat (first | refine blk_drewN ?_ _ | refine blk_drew ?_ | refine blk_alloc ?_ _)); exact BK149.out) hg (Kd.R_ne HO_9.out BK149.out (by decide))); have n5_ := Aside0.mk ((by rw [hw]; exact below_set (HB.out) GB33.out : Below w.heap.size w w38)); clear HO_6; clear HO_9; clear HO_43; clear BK137; clear BK149; clear HB; have HO_6 := n0_; have HO_9 := n1_; have HO_43 := n2_; have BK137 := n3_; have BK149 := n4_; have HB := n5_; clear n0_ n1_ n2_ n3_ n4_ n5_; clear hg hw hp_))
                     go_roundg k3
                     case measure => have := HK1.out; have := HK2.out; have := HK3.out; omega
                     case rel => exact ⟨(y151), (wrap64 (x12_3 + 1)), (by first | rfl | (simp; done) | (simp [*]; done)), H', ⟨by have := HK1.out; have := HK2.out; have := HK3.out; omega⟩, ⟨by (with_reducible repeat (first | apply Kd.R_alloc | apply Kd.R_drewN | apply Kd.R_drew)); exact Kd.R_mono HO_6.out (fun _ hk => hk.2)⟩, ⟨by (with_reducible repeat (first | apply Kd.R_alloc | apply Kd.R_drewN | apply Kd.R_drew)); exact HO_9.out⟩, ⟨by (with_reducible repeat (first | apply Kd.R_alloc | apply Kd.R_drewN | apply Kd.R_drew)); exact HO_43.out⟩, ⟨by (with_reducible repeat (first | refine blk_drewN ?_ _ | refine blk_drew ?_ | refine blk_alloc ?_ _)); exact BK137.out⟩, ⟨by (with_reducible repeat (first | refine blk_drewN ?_ _ | refine blk_drew ?_ | refine blk_alloc ?_ _)); exact BK149.out⟩, ⟨by repeat (first | (with_reducible first | exact HB.out | apply below_alloc | apply pw_below_drewN | apply below_drew1 | refine below_set ?_ GE137.out | refine below_set ?_ GE149.out) | exact HB.out)⟩⟩
                    ·rw [if_neg c32] at H
                     exact absurd H (by simp)
                   ·rw [if_neg c31] at H
                    exact absurd H (by simp)
                  ·rw [if_neg c30] at H
                   exact absurd H (by simp)
                 ·rw [if_neg c29] at H
                  exact absurd H (by simp)
                ·rw [if_neg c28] at H
                 have c28b0 : decide ((wrap64 (a1_0 + (wrap64 (x12_3 * a1_2)))) < ((rd_T56 t142 x45_2).f1)) = false := decide_eq_false c28
                 clear c28
                 have H' := Aside0.mk H
                 clear H
                 have hnb39 := NB137_149.out
                 have hnc39 := NB149_137.out
                 have hcz40_0 : wr.cell? ⟨gb137, 0, none⟩ = some (.int .i64 a1_0) := (blk_cell BK137.out 0).trans rfl
                 have hcz40_1 : wr.cell? ⟨gb137, 1, none⟩ = some (.int .i64 a1_1) := (blk_cell BK137.out 1).trans rfl
                 have hcz40_2 : wr.cell? ⟨gb137, 2, none⟩ = some (.int .i64 a1_2) := (blk_cell BK137.out 2).trans rfl
                 have hcz40_3 : wr.cell? ⟨gb137, 3, none⟩ = some (.int .i64 a1_3) := (blk_cell BK137.out 3).trans rfl
                 have hcz40_4 : wr.cell? ⟨gb137, 4, none⟩ = some (.int .i64 a1_4) := (blk_cell BK137.out 4).trans rfl
                 have hfz40_0 := blk_frozen BK137.out 0
                 have hfz40_1 := blk_frozen BK137.out 1
                 have hfz40_2 := blk_frozen BK137.out 2
                 have hfz40_3 := blk_frozen BK137.out 3
                 have hfz40_4 := blk_frozen BK137.out 4
                 have hcz41_0 : wr.cell? ⟨gb149, 0, none⟩ = some (.int .i64 ((rd_T56 t142 x45_2).f0)) := (blk_cell BK149.out 0).trans rfl
                 have hcz41_1 : wr.cell? ⟨gb149, 1, none⟩ = some (.int .i64 ((rd_T56 t142 x45_2).f1)) := (blk_cell BK149.out 1).trans rfl
                 have hcz41_2 : wr.cell? ⟨gb149, 2, none⟩ = some (.int .i64 ((rd_T56 t142 x45_2).f2)) := (blk_cell BK149.out 2).trans rfl
                 have hfz41_0 := blk_frozen BK149.out 0
                 have hfz41_1 := blk_frozen BK149.out 1
                 have hfz41_2 := blk_frozen BK149.out 2
                 go_wp2
                 go_roundg k3
                 case measure => have := HK1.out; have := HK2.out; have := HK3.out; omega
                 case rel => exact ⟨(x9_3), (wrap64 (x45_2 + 1)), (by first | rfl | (simp; done) | (simp [*]; done)), H', ⟨by have := HK1.out; have := HK2.out; have := HK3.out; omega⟩, ⟨by (with_reducible repeat (first | apply Kd.R_alloc | apply Kd.R_drewN | apply Kd.R_drew)); exact HO_6.out⟩, ⟨by (with_reducible repeat (first | apply Kd.R_alloc | apply Kd.R_drewN | apply Kd.R_drew)); exact HO_9.out⟩, ⟨by (with_reducible repeat (first | apply Kd.R_alloc | apply Kd.R_drewN | apply Kd.R_drew)); exact Kd.R_mono HO_43.out (fun _ hk => trivial)⟩, ⟨by (with_reducible repeat (first | refine blk_drewN ?_ _ | refine blk_drew ?_ | refine blk_alloc ?_ _)); exact BK137.out⟩, ⟨by repeat (first | (with_reducible first | exact HB.out | apply below_alloc | apply pw_below_drewN | apply below_drew1 | refine below_set ?_ GE137.out | refine below_set ?_ GE149.out) | exact HB.out)⟩⟩
               ·rw [if_neg c27] at H
                have c27b0 : decide (x12_3 < a1_3) = false := decide_eq_false c27
                clear c27
                have H' := Aside0.mk H
                clear H
                have hnb42 := NB137_149.out
                have hnc42 := NB149_137.out
                have hcz43_0 : wr.cell? ⟨gb137, 0, none⟩ = some (.int .i64 a1_0) := (blk_cell BK137.out 0).trans rfl
                have hcz43_1 : wr.cell? ⟨gb137, 1, none⟩ = some (.int .i64 a1_1) := (blk_cell BK137.out 1).trans rfl
                have hcz43_2 : wr.cell? ⟨gb137, 2, none⟩ = some (.int .i64 a1_2) := (blk_cell BK137.out 2).trans rfl
                have hcz43_3 : wr.cell? ⟨gb137, 3, none⟩ = some (.int .i64 a1_3) := (blk_cell BK137.out 3).trans rfl
                have hcz43_4 : wr.cell? ⟨gb137, 4, none⟩ = some (.int .i64 a1_4) := (blk_cell BK137.out 4).trans rfl
                have hfz43_0 := blk_frozen BK137.out 0
                have hfz43_1 := blk_frozen BK137.out 1
                have hfz43_2 := blk_frozen BK137.out 2
                have hfz43_3 := blk_frozen BK137.out 3
                have hfz43_4 := blk_frozen BK137.out 4
                go_wp2
                go_roundg k3
                case measure => have := HK1.out; have := HK2.out; have := HK3.out; omega
                case rel => exact ⟨(x9_3), (wrap64 (x45_2 + 1)), (by first | rfl | (simp; done) | (simp [*]; done)), H', ⟨by have := HK1.out; have := HK2.out; have := HK3.out; omega⟩, ⟨by (with_reducible repeat (first | apply Kd.R_alloc | apply Kd.R_drewN | apply Kd.R_drew)); exact HO_6.out⟩, ⟨by (with_reducible repeat (first | apply Kd.R_alloc | apply Kd.R_drewN | apply Kd.R_drew)); exact HO_9.out⟩, ⟨by (with_reducible repeat (first | apply Kd.R_alloc | apply Kd.R_drewN | apply Kd.R_drew)); exact Kd.R_mono HO_43.out (fun _ hk => trivial)⟩, ⟨by (with_reducible repeat (first | refine blk_drewN ?_ _ | refine blk_drew ?_ | refine blk_alloc ?_ _)); exact BK137.out⟩, ⟨by repeat (first | (with_reducible first | exact HB.out | apply below_alloc | apply pw_below_drewN | apply below_drew1 | refine below_set ?_ GE137.out | refine below_set ?_ GE149.out) | exact HB.out)⟩⟩
           ·rw [if_neg c21] at H
            exact absurd H (by simp)
          ·rw [if_neg c20] at H
           exact absurd H (by simp)
         ·rw [if_neg c19] at H
          have c19b0 : decide (x45_2 < (t142.length : Int)) = false := decide_eq_false c19
          clear c19
          by_cases c44 : x6_1.length + x9_2.length < 17592186044416
          ·rw [if_pos c44] at H
           have LMc44 := Aside0.mk c44
           clear c44
           obtain ⟨y145, hy145⟩ : ∃ y_ : List Int, y_ = (x6_1 ++ x9_2) := ⟨_, rfl⟩
           replace H : (raster_Draw.l0 k2 l0 y145 a1_4 (wrap64 (x18_1 + 1)) a1_0 a1_1 a1_2 a1_3 a1_4) = some (r1, r2) := by first | (rw [hy145]; with_reducible exact H) | (have H2_ := (Option.bind_some _ _).symm.trans H; rw [hy145]; with_reducible exact H2_) | (have H2_ := (Option.bind_some _ _).symm.trans H; with_reducible exact H2_) | with_reducible exact H | (rw [hy145]; exact H) | exact H
           have Ny145 := Aside0.mk hy145
           clear hy145
           have H' := Aside0.mk H
           clear H
           obtain ⟨Ao46, co46, eo46⟩ := Kd.R_slice HO_9.out
           subst eo46
           go_wp2_with (first | ((with_reducible refine gate_builtin (b := .append) (xs := #[.tmp 89, .tmp 90]) rfl ?_); at_builtin; refine Kd.R_append_rows (Kd.int .i64) (w0 := w) w.heap.size rfl (.tmp 89) (.tmp 90) 47 2 (.int .i64 0) 8 rfl Try.underlying47 info2 rfl (by decide) (by omega) u6 x6_1 x9_2 _ _ _ (fun k_ => some k_ ≠ (.slice Ao46 x9_2.length co46 : Value).ownBlock) (fun _ => False) rfl rfl ?aO ?aR (fun _ _ h => h) (fun _ h => h.elim) ?aF ?aB ?aS ?aL ?_; (case aR => repeat (first | exact (Kd.R_reads' HO_9.out).2.2 | (with_reducible refine Kd.C_alloc ?_ _) | (with_reducible refine Kd.C_drewN ?_ _) | (with_reducible refine Kd.C_drew ?_))); (case aB => exact (by repeat (first | (with_reducible first | exact HB.out | apply below_alloc | apply pw_below_drewN | apply below_drew1 | refine below_set ?_ GE137.out) | exact HB.out))); (case aF => exact (fun k_ hk => Kd.fresh' (Kd.R_lt (by (with_reducible repeat (first | apply Kd.R_alloc | apply Kd.R_drewN | apply Kd.R_drew)); exact HO_9.out)) k_ hk)); (case aO => exact (by (with_reducible repeat (first | apply Kd.R_alloc | apply Kd.R_drewN | apply Kd.R_drew)); exact HO_6.out)); (case aS => exact (below_size (by repeat (first | (with_reducible first | exact HB.out | apply below_alloc | apply pw_below_drewN | apply below_drew1 | refine below_set ?_ GE137.out) | exact HB.out)))); (case aL => have := LMc44.out; omega); intro v146 w45 ho hb hg hat; rw [← Ny145.out] at ho; have n0_ := Aside0.mk (Kd.R_after (ok := (fun _ => True)) (by (with_reducible repeat (first | apply Kd.R_alloc | apply Kd.R_drewN | apply Kd.R_drew)); exact Kd.R_mono HO_9.out (fun _ hk => ⟨trivial, hk⟩)) hg hat); have n1_ := Aside0.mk (Kd.R_over' (by (with_reducible repeat (first | apply Kd.R_alloc | apply Kd.R_drewN | apply Kd.R_drew)); exact HO_43.out) (Kd.R_typed (by (with_reducible repeat (first | apply Kd.R_alloc | apply Kd.R_drewN | apply Kd.R_drew)); exact HO_6.out)) (by decide) hg); have n2_ := Aside0.mk (blk_grown (g := gb137) (o := .cells #[.int .i64 a1_0, .int .i64 a1_1, .int .i64 a1_2, .int .i64 a1_3, .int .i64 a1_4] 44 (0, 0)) (by (with_reducible repeat (first | refine blk_drewN ?_ _ | refine blk_drew ?_ | refine blk_alloc ?_ _)); exact BK137.out) hg (Kd.R_ne HO_6.out BK137.out (by decide))); have n3_ := Aside0.mk (hb); have n4_ := Aside0.mk (ho); clear HO_9; clear HO_43; clear BK137; clear HB; clear HO_6; have HO_9 := n0_; have HO_43 := n1_; have BK137 := n2_; have HB := n3_; have HO147 := n4_; clear n0_ n1_ n2_ n3_ n4_; clear ho hb hg hat))
           go_roundg k2
           case measure => have := HK1.out; have := HK2.out; omega
           case rel => exact ⟨(y145), (wrap64 (x18_1 + 1)), (by first | rfl | (simp; done) | (simp [*]; done)), H', ⟨by have := HK1.out; have := HK2.out; omega⟩, ⟨by (with_reducible repeat (first | apply Kd.R_alloc | apply Kd.R_drewN | apply Kd.R_drew)); exact Kd.R_mono HO147.out (fun _ hk => trivial)⟩, ⟨by (with_reducible repeat (first | refine blk_drewN ?_ _ | refine blk_drew ?_ | refine blk_alloc ?_ _)); exact BK137.out⟩, ⟨by repeat (first | (with_reducible first | exact HB.out | apply below_alloc | apply pw_below_drewN | apply below_drew1 | refine below_set ?_ GE137.out) | exact HB.out)⟩⟩
          ·rw [if_neg c44] at H
           exact absurd H (by simp)
      ·rw [if_neg c11] at H
       exact absurd H (by simp)
     ·rw [if_neg c10] at H
      exact absurd H (by simp)
    ·rw [if_neg c9] at H
     have c9b0 : decide (x18_1 < a1_4) = false := decide_eq_false c9
     clear c9
     simp only [Option.some.injEq, Prod.mk.injEq] at H
     obtain ⟨rfl, rfl⟩ := H
     go_wp2
     go_ret2
     exact ⟨_, by first | rfl | (simp [errW_none, errW_some] <;> rfl) | (simp [*, errW_none, errW_some] <;> rfl), by (with_reducible repeat (first | apply Kd.R_alloc | apply Kd.R_drewN | apply Kd.R_drew)); exact HO_6.out, by repeat (first | (with_reducible first | exact HB.out | apply below_alloc | apply pw_below_drewN | apply below_drew1 | refine below_set ?_ GE137.out) | exact HB.out)⟩
 ·replace c4 := Bool.eq_false_iff.mpr c4
  subst c4
  have H1 : (some (([] : List Int), 1)) = some (r1, r2) := by rw [if_neg (show ¬ (false = true) by decide)] at H; exact H
  clear H
  have H := H1
  clear H1
  simp only [Option.some.injEq, Prod.mk.injEq] at H
  obtain ⟨rfl, rfl⟩ := H
  go_enter Try.func28, Try.ntmps28
  go_wp2_with (first | ((with_reducible refine gate_dst (N := 3) rfl ?_); refine box_event ?hg (N := 3) ?hd (cs := #[.int .i64 a1_0, .int .i64 a1_1, .int .i64 a1_2, .int .i64 a1_3, .int .i64 a1_4]) (t := 44) ?hr ?_; (case hd => rfl); (case hg => rfl); (case hr => first | (go_simp; done) | (go_simp; rfl)); intro gb137 hg w47 hbox hb; have n0_ := Aside0.mk (below_step (by repeat (first | (with_reducible first | exact HB.out | apply below_alloc | apply pw_below_drewN | apply below_drew1) | exact HB.out)) hb); have n1_ := Aside0.mk (hbox); have n2_ := Aside0.mk ((by rw [hg]; exact (below_size (by repeat (first | (with_reducible first | exact HB.out | apply below_alloc | apply pw_below_drewN | apply below_drew1) | exact HB.out))) : w.heap.size ≤ gb137)); have n3_ := Aside0.mk ((by rw [hg]; exact (below_size (by repeat (first | (with_reducible first | exact HB.out | apply below_alloc | apply pw_below_drewN | apply below_drew1) | exact HB.out))) : w.heap.size ≤ gb137)); clear HB; have HB := n0_; have BK137 := n1_; have GW137 := n2_; have GE137 := n3_; clear n0_ n1_ n2_ n3_; clear hb hbox hg; have hcz48_0 : w47.cell? ⟨gb137, 0, none⟩ = some (.int .i64 a1_0) := (blk_cell BK137.out 0).trans rfl; have hcz48_1 : w47.cell? ⟨gb137, 1, none⟩ = some (.int .i64 a1_1) := (blk_cell BK137.out 1).trans rfl; have hcz48_2 : w47.cell? ⟨gb137, 2, none⟩ = some (.int .i64 a1_2) := (blk_cell BK137.out 2).trans rfl; have hcz48_3 : w47.cell? ⟨gb137, 3, none⟩ = some (.int .i64 a1_3) := (blk_cell BK137.out 3).trans rfl; have hcz48_4 : w47.cell? ⟨gb137, 4, none⟩ = some (.int .i64 a1_4) := (blk_cell BK137.out 4).trans rfl; have hfz48_0 := blk_frozen BK137.out 0; have hfz48_1 := blk_frozen BK137.out 1; have hfz48_2 := blk_frozen BK137.out 2; have hfz48_3 := blk_frozen BK137.out 3; have hfz48_4 := blk_frozen BK137.out 4) | ((with_reducible refine gate_callee (f := 49) rfl ?_); refine goesL_ (some 14) rfl rfl Try.func49 (by kernel_rfl) rfl #[.agg #[.int .i64 a1_0, .int .i64 a1_1, .int .i64 a1_2, .int .i64 a1_3, .int .i64 a1_4]] rfl (by (try simp only [List.map_toArray, List.map_cons, List.map_nil]); first | done | rfl | (simp only [List.length_drop, List.length_take]; rfl)) ?_; (with_reducible refine (raster_Grid_right.calls k a1_0 a1_1 a1_2 a1_3 a1_4 false _ A3.out).mono ?_); rintro e w49 ⟨rfl, hb⟩; refine ⟨_, rfl, ?_⟩; have n0_ := Aside0.mk (blk_below (g := gb137) (o := .cells #[.int .i64 a1_0, .int .i64 a1_1, .int .i64 a1_2, .int .i64 a1_3, .int .i64 a1_4] 44 (0, 0)) (by (with_reducible repeat (first | refine blk_drewN ?_ _ | refine blk_drew ?_ | refine blk_alloc ?_ _)); exact BK137.out) hb); have n1_ := Aside0.mk (below_step (by repeat (first | (with_reducible first | exact HB.out | apply below_alloc | apply pw_below_drewN | apply below_drew1 | refine below_set ?_ GE137.out) | exact HB.out)) hb); clear BK137; clear HB; have BK137 := n0_; have HB := n1_; clear n0_ n1_; (try clear hb); (try clear hb2); (try clear hk); (try clear hi)))
  go_ret2
  exact ⟨_, by first | rfl | (simp [errW_none, errW_some] <;> rfl) | (simp [*, errW_none, errW_some] <;> rfl), by first | exact Kd.R_nil _ _ _ _ _ | exact Kd.N_nil _ _ _ _ _ | exact Kd.V_nil _ _ _ _ _ | exact Kd.Q_nil _ _ _ _ _ | exact Kd.S_nil _ _ _ _ _, by repeat (first | (with_reducible first | exact HB.out | apply below_alloc | apply pw_below_drewN | apply below_drew1 | refine below_set ?_ GE137.out) | exact HB.out)⟩

/-! ### decoupagelaw28_awake: function 26 -/
def decoupagelaw28_awake.f (k : Nat)  : Option (Bool) := (raster_Draw.f k (([(⟨0, 0, (⟨0, 0, 1, 1⟩ : S37), (⟨0, 0, 0, 0⟩ : S37), (⟨0, 0, 1, 1⟩ : S37), 7⟩ : S39)] : List (S39))) 0 0 1 2 1).bind fun bt156 => (if bt156.2 = 0 then (if (bt156.1.length : Int) = 2 then (if 0 < (bt156.1.length : Int) then (if (rd bt156.1 0) = 7 then (if 1 < (bt156.1.length : Int) then (some ((rd bt156.1 1) == 0)) else (none)) else (some false)) else (none)) else (some false)) else (some false))
theorem decoupagelaw28_awake.mono : ∀ k, LeO (decoupagelaw28_awake.f k ) (decoupagelaw28_awake.f (k + 1) ) := by
 intro  k
 unfold decoupagelaw28_awake.f
 repeat' first
   | (with_reducible exact raster_Draw.mono _ _ _ _ _ _ _)
   | (with_reducible exact LeO.refl _)
   | (with_reducible exact LeO.none _)
   | (with_reducible refine LeO.ite ?_ ?_)
   | (with_reducible refine LeO.bind ?_ (fun _ => ?_))
   | exact raster_Draw.mono _ _ _ _ _ _ _
   | exact LeO.none _
   | refine LeO.ite ?_ ?_
   | refine LeO.bind ?_ (fun _ => ?_)
set_option maxHeartbeats 8000000 in
set_option maxRecDepth 100000 in
theorem decoupagelaw28_awake.calls (k : Nat)  (r : Bool) (w : World) (h : decoupagelaw28_awake.f k  = some r) :
  Calls Try.prog 26 #[] w fun e w' => e = .returned (.bool r) ∧ Below w.heap.size w w' := by
 have hu37 := Try.underlying37
 have hu39 := Try.underlying39
 have hu44 := Try.underlying44
 have HB := Aside0.mk (Below.refl w.heap.size w)
 have H : ((raster_Draw.f k (([(⟨0, 0, (⟨0, 0, 1, 1⟩ : S37), (⟨0, 0, 0, 0⟩ : S37), (⟨0, 0, 1, 1⟩ : S37), 7⟩ : S39)] : List (S39))) 0 0 1 2 1).bind fun bt156 => (if bt156.2 = 0 then (if (bt156.1.length : Int) = 2 then (if 0 < (bt156.1.length : Int) then (if (rd bt156.1 0) = 7 then (if 1 < (bt156.1.length : Int) then (some ((rd bt156.1 1) == 0)) else (none)) else (some false)) else (none)) else (some false)) else (some false))) = some r := h
 clear h
 obtain ⟨y153, hy153⟩ : ∃ y_ : List (S39), y_ = (([(⟨0, 0, (⟨0, 0, 1, 1⟩ : S37), (⟨0, 0, 0, 0⟩ : S37), (⟨0, 0, 1, 1⟩ : S37), 7⟩ : S39)] : List (S39))) := ⟨_, rfl⟩
 replace H : ((raster_Draw.f k y153 0 0 1 2 1).bind fun bt156 => (if bt156.2 = 0 then (if (bt156.1.length : Int) = 2 then (if 0 < (bt156.1.length : Int) then (if (rd bt156.1 0) = 7 then (if 1 < (bt156.1.length : Int) then (some ((rd bt156.1 1) == 0)) else (none)) else (some false)) else (none)) else (some false)) else (some false))) = some r := by first | (rw [hy153]; with_reducible exact H) | (have H2_ := (Option.bind_some _ _).symm.trans H; rw [hy153]; with_reducible exact H2_) | (have H2_ := (Option.bind_some _ _).symm.trans H; with_reducible exact H2_) | with_reducible exact H | (rw [hy153]; exact H) | exact H
 have Ny153 := Aside0.mk hy153
 clear hy153
 replace H := Option.bind_eq_some_iff.mp H
 obtain ⟨⟨t156, t159⟩, A10, H⟩ := H
 replace H : (if t159 = 0 then (if (t156.length : Int) = 2 then (if 0 < (t156.length : Int) then (if (rd t156 0) = 7 then (if 1 < (t156.length : Int) then (some ((rd t156 1) == 0)) else (none)) else (some false)) else (none)) else (some false)) else (some false)) = some r := H
 have A1 := Aside0.mk A10
 clear A10
 by_cases c2 : t159 = 0
 ·rw [if_pos c2] at H
  have c2b0 : (t159 == 0) = true := beq_iff_eq.mpr c2
  have c2b1 : (t159 != 0) = false := bne_eq_false_iff_eq.mpr c2
  clear c2
  by_cases c3 : (t156.length : Int) = 2
  ·rw [if_pos c3] at H
   have c3b0 : ((t156.length : Int) == 2) = true := beq_iff_eq.mpr c3
   have c3b1 : ((t156.length : Int) != 2) = false := bne_eq_false_iff_eq.mpr c3
   clear c3
   by_cases c4 : 0 < (t156.length : Int)
   ·rw [if_pos c4] at H
    have c4b0 : decide (0 < (t156.length : Int)) = true := decide_eq_true c4
    have c4b1 : decide (0 < t156.length) = true := decide_eq_true (by omega)
    clear c4
    by_cases c5 : (rd t156 0) = 7
    ·rw [if_pos c5] at H
     have c5b0 : ((rd t156 0) == 7) = true := beq_iff_eq.mpr c5
     have c5b1 : ((rd t156 0) != 7) = false := bne_eq_false_iff_eq.mpr c5
     clear c5
     by_cases c6 : 1 < (t156.length : Int)
     ·rw [if_pos c6] at H
      have c6b0 : decide (1 < (t156.length : Int)) = true := decide_eq_true c6
      have c6b1 : decide (1 < t156.length) = true := decide_eq_true (by omega)
      clear c6
      obtain rfl := Option.some.inj H
      go_enter Try.func26, Try.ntmps26
      go_wp2_with (first | ((with_reducible refine gate_dst (N := 1) rfl ?_); (try (refine gate_guard (by rfl) ?_; dsimp only)); refine box_event ?hg (N := 1) ?hd (cs := #[.int .i64 0, .int .i64 0, .int .i64 0, .int .i64 0]) (t := 37) ?hr ?_; (case hd => rfl); (case hg => rfl); (case hr => first | (go_simp; done) | (go_simp; rfl)); intro gb152 hg w7 hbox hb; have n0_ := Aside0.mk (below_step (by repeat (first | (with_reducible first | exact HB.out | apply below_alloc | apply pw_below_drewN | apply below_drew1) | exact HB.out)) hb); have n1_ := Aside0.mk (hbox); have n2_ := Aside0.mk ((by rw [hg]; exact (below_size (by repeat (first | (with_reducible first | exact HB.out | apply below_alloc | apply pw_below_drewN | apply below_drew1) | exact HB.out))) : w.heap.size ≤ gb152)); have n3_ := Aside0.mk ((by rw [hg]; exact (below_size (by repeat (first | (with_reducible first | exact HB.out | apply below_alloc | apply pw_below_drewN | apply below_drew1) | exact HB.out))) : w.heap.size ≤ gb152)); clear HB; have HB := n0_; have BK152 := n1_; have GW152 := n2_; have GE152 := n3_; clear n0_ n1_ n2_ n3_; clear hb hbox hg; have hcz8_0 : w7.cell? ⟨gb152, 0, none⟩ = some (.int .i64 0) := (blk_cell BK152.out 0).trans rfl; have hcz8_1 : w7.cell? ⟨gb152, 1, none⟩ = some (.int .i64 0) := (blk_cell BK152.out 1).trans rfl; have hcz8_2 : w7.cell? ⟨gb152, 2, none⟩ = some (.int .i64 0) := (blk_cell BK152.out 2).trans rfl; have hcz8_3 : w7.cell? ⟨gb152, 3, none⟩ = some (.int .i64 0) := (blk_cell BK152.out 3).trans rfl; have hfz8_0 := blk_frozen BK152.out 0; have hfz8_1 := blk_frozen BK152.out 1; have hfz8_2 := blk_frozen BK152.out 2; have hfz8_3 := blk_frozen BK152.out 3) | ((with_reducible refine gate_dst (N := 9) rfl ?_); (try (refine gate_guard (by rfl) ?_; dsimp only)); refine Kd.R_lit k39 _ 39 ?hg (N := 9) ?hd (xs := ([(⟨0, 0, (⟨0, 0, 1, 1⟩ : S37), (⟨0, 0, 0, 0⟩ : S37), (⟨0, 0, 1, 1⟩ : S37), 7⟩ : S39)] : List (S39))) (inner := [.int .i64 0, .int .i64 0, .int .i64 0, .int .i64 0, .int .i64 1, .int .i64 1, .int .i64 0, .int .i64 0, .int .i64 0, .int .i64 0, .int .i64 0, .int .i64 0, .int .i64 1, .int .i64 1, .int .i64 7]) (ok := fun _ => True) (okp := fun _ => True) ?hr ?hp (fun _ hk => hk) trivial (Below.refl _ _) (Nat.le_refl _) (by simp) ?_; (case hd => rfl); (case hg => rfl); (case hr => first | (go_simp; done) | (go_simp; rfl)); (case hp => exact (Reps.front (show Kd.M k39 _ _ _ (⟨0, 0, (⟨0, 0, 1, 1⟩ : S37), (⟨0, 0, 0, 0⟩ : S37), (⟨0, 0, 1, 1⟩ : S37), 7⟩ : S39) [.int .i64 0, .int .i64 0, .int .i64 0, .int .i64 0, .int .i64 1, .int .i64 1, .int .i64 0, .int .i64 0, .int .i64 0, .int .i64 0, .int .i64 0, .int .i64 0, .int .i64 1, .int .i64 1, .int .i64 7] from (k39_mkM _ _ _ (⟨0, 0, (⟨0, 0, 1, 1⟩ : S37), (⟨0, 0, 0, 0⟩ : S37), (⟨0, 0, 1, 1⟩ : S37), 7⟩ : S39) )) rfl (Reps.none _ _) rfl)); intro v154 w9 ho10 hb hg_ hnew_; clear hg_ hnew_; (first | rw [← Ny153.out] at ho10 | (simp only [Int.reduceToNat] at ho10; rw [← Ny153.out] at ho10)); have n0_ := Aside0.mk (Kd.R_lower ho10 (below_size (by repeat (first | (with_reducible first | exact HB.out | apply below_alloc | apply pw_below_drewN | apply below_drew1 | refine below_set ?_ GE152.out) | exact HB.out)))); have n1_ := Aside0.mk (blk_below (g := gb152) (o := .cells #[.int .i64 0, .int .i64 0, .int .i64 1, .int .i64 1] 37 (0, 0)) (by (with_reducible repeat (first | refine blk_drewN ?_ _ | refine blk_drew ?_ | refine blk_alloc ?_ _)); refine blk_put (cs := #[.int .i64 0, .int .i64 0, .int .i64 1, .int .i64 0]) ?_ 3 _ rfl; (with_reducible repeat (first | refine blk_drewN ?_ _ | refine blk_drew ?_ | refine blk_alloc ?_ _)); refine blk_put (cs := #[.int .i64 0, .int .i64 0, .int .i64 0, .int .i64 0]) ?_ 2 _ rfl; (with_reducible repeat (first | refine blk_drewN ?_ _ | refine blk_drew ?_ | refine blk_alloc ?_ _)); refine blk_put (cs := #[.int .i64 0, .int .i64 0, .int .i64 0, .int .i64 0]) ?_ 1 _ rfl; (with_reducible repeat (first | refine blk_drewN ?_ _ | refine blk_drew ?_ | refine blk_alloc ?_ _)); refine blk_put (cs := #[.int .i64 0, .int .i64 0, .int .i64 0, .int .i64 0]) ?_ 0 _ rfl; (with_reducible repeat (first | refine blk_drewN ?_ _ | refine blk_drew ?_ | refine blk_alloc ?_ _)); exact BK152.out) hb); have n2_ := Aside0.mk (below_step (by repeat (first | (with_reducible first | exact HB.out | apply below_alloc | apply pw_below_drewN | apply below_drew1 | refine below_set ?_ GE152.out) | exact HB.out)) hb); clear BK152; clear HB; have HO155 := n0_; have BK152 := n1_; have HB := n2_; clear n0_ n1_ n2_; clear hb ho10; obtain ⟨Ao11, co11, eo11⟩ := Kd.R_slice HO155.out; subst eo11) | ((with_reducible refine gate_callee (f := 28) rfl ?_); refine goesL_ (some 11) rfl rfl Try.func28 (by kernel_rfl) rfl #[.slice Ao11 y153.length co11, .agg #[.int .i64 0, .int .i64 0, .int .i64 1, .int .i64 2, .int .i64 1]] rfl (by (try simp only [List.map_toArray, List.map_cons, List.map_nil]); first | done | rfl | (simp only [List.length_drop, List.length_take]; rfl)) ?_; (with_reducible refine (raster_Draw.calls k _ _ y153 0 0 1 2 1 t156 t159 _ ?side1 ?side2 A1.out).mono ?_); (case side1 => repeat (first | exact (Kd.R_reads' HO155.out).2.2 | (with_reducible refine Kd.C_alloc ?_ _) | (with_reducible refine Kd.C_drewN ?_ _) | (with_reducible refine Kd.C_drew ?_))); (case side2 => exact (Kd.R_reads' HO155.out).2.1); rintro e w12 ⟨v157, rfl, ho0, hb⟩; refine ⟨_, rfl, ?_⟩; have n0_ := Aside0.mk (Kd.R_below (by (with_reducible repeat (first | apply Kd.R_alloc | apply Kd.R_drewN | apply Kd.R_drew)); exact HO155.out) hb); have n1_ := Aside0.mk (Kd.R_lower ho0 (below_size (by repeat (first | (with_reducible first | exact HB.out | apply below_alloc | apply pw_below_drewN | apply below_drew1 | refine below_set ?_ GE152.out) | exact HB.out)))); have n2_ := Aside0.mk (blk_below (g := gb152) (o := .cells #[.int .i64 0, .int .i64 0, .int .i64 1, .int .i64 1] 37 (0, 0)) (by (with_reducible repeat (first | refine blk_drewN ?_ _ | refine blk_drew ?_ | refine blk_alloc ?_ _)); exact BK152.out) hb); have n3_ := Aside0.mk (below_step (by repeat (first | (with_reducible first | exact HB.out | apply below_alloc | apply pw_below_drewN | apply below_drew1 | refine below_set ?_ GE152.out) | exact HB.out)) hb); clear HO155; clear BK152; clear HB; have HO155 := n0_; have HO158 := n1_; have BK152 := n2_; have HB := n3_; clear n0_ n1_ n2_ n3_; (try clear hb); (try clear hb2); (try clear hk); (try clear hi); (try clear ho0); obtain ⟨Ao13, co13, eo13⟩ := Kd.R_slice HO158.out; subst eo13; have p160 : 0 ≤ (0 : Int) := (by omega); have q160 : 0 < (t156.length : Int) := of_decide_eq_true (by first | (with_reducible assumption) | assumption); obtain ⟨ad160, e160, hx160_0⟩ := Kd.at_int (Kd.R_reads' HO158.out).2.2 0 p160 q160; cases e160; have qi160 : (0 < t156.length) = True := eq_true (by omega); (try rw [show ((0 : Int)).toNat = 0 from rfl] at hx160_0); (try rw [Addr.add_zero'] at hx160_0); replace p160 := eq_true p160; replace q160 := eq_true q160; have p161 : 0 ≤ (1 : Int) := (by omega); have q161 : 1 < (t156.length : Int) := of_decide_eq_true (by first | (with_reducible assumption) | assumption); obtain ⟨ad161, e161, hx161_0⟩ := Kd.at_int (Kd.R_reads' HO158.out).2.2 1 p161 q161; obtain rfl : ad160 = ad161 := (by injection e161); (try simp only [show (1 : Int).toNat = 1 from rfl, Nat.reduceMul, Nat.reduceEqDiff, Go.Addr.add, ↓reduceIte] at hx161_0); have qi161 : (1 < t156.length) = True := eq_true (by omega); (try rw [show ((1 : Int)).toNat = 1 from rfl] at hx161_0); replace p161 := eq_true p161; replace q161 := eq_true q161))
      go_ret
      exact ⟨by first | rfl | (simp [errW_none, errW_some] <;> rfl) | (simp [*, errW_none, errW_some] <;> rfl), by repeat (first | (with_reducible first | exact HB.out | apply below_alloc | apply pw_below_drewN | apply below_drew1 | refine below_set ?_ GE152.out) | exact HB.out)⟩
     ·rw [if_neg c6] at H
      exact absurd H (by simp)
    ·rw [if_neg c5] at H
     have c5b0 : ((rd t156 0) == 7) = false := beq_eq_false_iff_ne.mpr c5
     have c5b1 : ((rd t156 0) != 7) = true := bne_iff_ne.mpr c5
     obtain rfl := Option.some.inj H
     go_enter Try.func26, Try.ntmps26
     go_wp2_with (first | ((with_reducible refine gate_dst (N := 1) rfl ?_); (try (refine gate_guard (by rfl) ?_; dsimp only)); refine box_event ?hg (N := 1) ?hd (cs := #[.int .i64 0, .int .i64 0, .int .i64 0, .int .i64 0]) (t := 37) ?hr ?_; (case hd => rfl); (case hg => rfl); (case hr => first | (go_simp; done) | (go_simp; rfl)); intro gb152 hg w14 hbox hb; have n0_ := Aside0.mk (below_step (by repeat (first | (with_reducible first | exact HB.out | apply below_alloc | apply pw_below_drewN | apply below_drew1) | exact HB.out)) hb); have n1_ := Aside0.mk (hbox); have n2_ := Aside0.mk ((by rw [hg]; exact (below_size (by repeat (first | (with_reducible first | exact HB.out | apply below_alloc | apply pw_below_drewN | apply below_drew1) | exact HB.out))) : w.heap.size ≤ gb152)); have n3_ := Aside0.mk ((by rw [hg]; exact (below_size (by repeat (first | (with_reducible first | exact HB.out | apply below_alloc | apply pw_below_drewN | apply below_drew1) | exact HB.out))) : w.heap.size ≤ gb152)); clear HB; have HB := n0_; have BK152 := n1_; have GW152 := n2_; have GE152 := n3_; clear n0_ n1_ n2_ n3_; clear hb hbox hg; have hcz15_0 : w14.cell? ⟨gb152, 0, none⟩ = some (.int .i64 0) := (blk_cell BK152.out 0).trans rfl; have hcz15_1 : w14.cell? ⟨gb152, 1, none⟩ = some (.int .i64 0) := (blk_cell BK152.out 1).trans rfl; have hcz15_2 : w14.cell? ⟨gb152, 2, none⟩ = some (.int .i64 0) := (blk_cell BK152.out 2).trans rfl; have hcz15_3 : w14.cell? ⟨gb152, 3, none⟩ = some (.int .i64 0) := (blk_cell BK152.out 3).trans rfl; have hfz15_0 := blk_frozen BK152.out 0; have hfz15_1 := blk_frozen BK152.out 1; have hfz15_2 := blk_frozen BK152.out 2; have hfz15_3 := blk_frozen BK152.out 3) | ((with_reducible refine gate_dst (N := 9) rfl ?_); (try (refine gate_guard (by rfl) ?_; dsimp only)); refine Kd.R_lit k39 _ 39 ?hg (N := 9) ?hd (xs := ([(⟨0, 0, (⟨0, 0, 1, 1⟩ : S37), (⟨0, 0, 0, 0⟩ : S37), (⟨0, 0, 1, 1⟩ : S37), 7⟩ : S39)] : List (S39))) (inner := [.int .i64 0, .int .i64 0, .int .i64 0, .int .i64 0, .int .i64 1, .int .i64 1, .int .i64 0, .int .i64 0, .int .i64 0, .int .i64 0, .int .i64 0, .int .i64 0, .int .i64 1, .int .i64 1, .int .i64 7]) (ok := fun _ => True) (okp := fun _ => True) ?hr ?hp (fun _ hk => hk) trivial (Below.refl _ _) (Nat.le_refl _) (by simp) ?_; (case hd => rfl); (case hg => rfl); (case hr => first | (go_simp; done) | (go_simp; rfl)); (case hp => exact (Reps.front (show Kd.M k39 _ _ _ (⟨0, 0, (⟨0, 0, 1, 1⟩ : S37), (⟨0, 0, 0, 0⟩ : S37), (⟨0, 0, 1, 1⟩ : S37), 7⟩ : S39) [.int .i64 0, .int .i64 0, .int .i64 0, .int .i64 0, .int .i64 1, .int .i64 1, .int .i64 0, .int .i64 0, .int .i64 0, .int .i64 0, .int .i64 0, .int .i64 0, .int .i64 1, .int .i64 1, .int .i64 7] from (k39_mkM _ _ _ (⟨0, 0, (⟨0, 0, 1, 1⟩ : S37), (⟨0, 0, 0, 0⟩ : S37), (⟨0, 0, 1, 1⟩ : S37), 7⟩ : S39) )) rfl (Reps.none _ _) rfl)); intro v154 w16 ho17 hb hg_ hnew_; clear hg_ hnew_; (first | rw [← Ny153.out] at ho17 | (simp only [Int.reduceToNat] at ho17; rw [← Ny153.out] at ho17)); have n0_ := Aside0.mk (Kd.R_lower ho17 (below_size (by repeat (first | (with_reducible first | exact HB.out | apply below_alloc | apply pw_below_drewN | apply below_drew1 | refine below_set ?_ GE152.out) | exact HB.out)))); have n1_ := Aside0.mk (blk_below (g := gb152) (o := .cells #[.int .i64 0, .int .i64 0, .int .i64 1, .int .i64 1] 37 (0, 0)) (by (with_reducible repeat (first | refine blk_drewN ?_ _ | refine blk_drew ?_ | refine blk_alloc ?_ _)); refine blk_put (cs := #[.int .i64 0, .int .i64 0, .int .i64 1, .int .i64 0]) ?_ 3 _ rfl; (with_reducible repeat (first | refine blk_drewN ?_ _ | refine blk_drew ?_ | refine blk_alloc ?_ _)); refine blk_put (cs := #[.int .i64 0, .int .i64 0, .int .i64 0, .int .i64 0]) ?_ 2 _ rfl; (with_reducible repeat (first | refine blk_drewN ?_ _ | refine blk_drew ?_ | refine blk_alloc ?_ _)); refine blk_put (cs := #[.int .i64 0, .int .i64 0, .int .i64 0, .int .i64 0]) ?_ 1 _ rfl; (with_reducible repeat (first | refine blk_drewN ?_ _ | refine blk_drew ?_ | refine blk_alloc ?_ _)); refine blk_put (cs := #[.int .i64 0, .int .i64 0, .int .i64 0, .int .i64 0]) ?_ 0 _ rfl; (with_reducible repeat (first | refine blk_drewN ?_ _ | refine blk_drew ?_ | refine blk_alloc ?_ _)); exact BK152.out) hb); have n2_ := Aside0.mk (below_step (by repeat (first | (with_reducible first | exact HB.out | apply below_alloc | apply pw_below_drewN | apply below_drew1 | refine below_set ?_ GE152.out) | exact HB.out)) hb); clear BK152; clear HB; have HO155 := n0_; have BK152 := n1_; have HB := n2_; clear n0_ n1_ n2_; clear hb ho17; obtain ⟨Ao18, co18, eo18⟩ := Kd.R_slice HO155.out; subst eo18) | ((with_reducible refine gate_callee (f := 28) rfl ?_); refine goesL_ (some 11) rfl rfl Try.func28 (by kernel_rfl) rfl #[.slice Ao18 y153.length co18, .agg #[.int .i64 0, .int .i64 0, .int .i64 1, .int .i64 2, .int .i64 1]] rfl (by (try simp only [List.map_toArray, List.map_cons, List.map_nil]); first | done | rfl | (simp only [List.length_drop, List.length_take]; rfl)) ?_; (with_reducible refine (raster_Draw.calls k _ _ y153 0 0 1 2 1 t156 t159 _ ?side1 ?side2 A1.out).mono ?_); (case side1 => repeat (first | exact (Kd.R_reads' HO155.out).2.2 | (with_reducible refine Kd.C_alloc ?_ _) | (with_reducible refine Kd.C_drewN ?_ _) | (with_reducible refine Kd.C_drew ?_))); (case side2 => exact (Kd.R_reads' HO155.out).2.1); rintro e w19 ⟨v157, rfl, ho0, hb⟩; refine ⟨_, rfl, ?_⟩; have n0_ := Aside0.mk (Kd.R_below (by (with_reducible repeat (first | apply Kd.R_alloc | apply Kd.R_drewN | apply Kd.R_drew)); exact HO155.out) hb); have n1_ := Aside0.mk (Kd.R_lower ho0 (below_size (by repeat (first | (with_reducible first | exact HB.out | apply below_alloc | apply pw_below_drewN | apply below_drew1 | refine below_set ?_ GE152.out) | exact HB.out)))); have n2_ := Aside0.mk (blk_below (g := gb152) (o := .cells #[.int .i64 0, .int .i64 0, .int .i64 1, .int .i64 1] 37 (0, 0)) (by (with_reducible repeat (first | refine blk_drewN ?_ _ | refine blk_drew ?_ | refine blk_alloc ?_ _)); exact BK152.out) hb); have n3_ := Aside0.mk (below_step (by repeat (first | (with_reducible first | exact HB.out | apply below_alloc | apply pw_below_drewN | apply below_drew1 | refine below_set ?_ GE152.out) | exact HB.out)) hb); clear HO155; clear BK152; clear HB; have HO155 := n0_; have HO158 := n1_; have BK152 := n2_; have HB := n3_; clear n0_ n1_ n2_ n3_; (try clear hb); (try clear hb2); (try clear hk); (try clear hi); (try clear ho0); obtain ⟨Ao20, co20, eo20⟩ := Kd.R_slice HO158.out; subst eo20; have p160 : 0 ≤ (0 : Int) := (by omega); have q160 : 0 < (t156.length : Int) := of_decide_eq_true (by first | (with_reducible assumption) | assumption); obtain ⟨ad160, e160, hx160_0⟩ := Kd.at_int (Kd.R_reads' HO158.out).2.2 0 p160 q160; cases e160; have qi160 : (0 < t156.length) = True := eq_true (by omega); (try rw [show ((0 : Int)).toNat = 0 from rfl] at hx160_0); (try rw [Addr.add_zero'] at hx160_0); replace p160 := eq_true p160; replace q160 := eq_true q160))
     go_ret
     exact ⟨by first | rfl | (simp [errW_none, errW_some] <;> rfl) | (simp [*, errW_none, errW_some] <;> rfl), by repeat (first | (with_reducible first | exact HB.out | apply below_alloc | apply pw_below_drewN | apply below_drew1 | refine below_set ?_ GE152.out) | exact HB.out)⟩
   ·rw [if_neg c4] at H
    exact absurd H (by simp)
  ·rw [if_neg c3] at H
   have c3b0 : ((t156.length : Int) == 2) = false := beq_eq_false_iff_ne.mpr c3
   have c3b1 : ((t156.length : Int) != 2) = true := bne_iff_ne.mpr c3
   obtain rfl := Option.some.inj H
   go_enter Try.func26, Try.ntmps26
   go_wp2_with (first | ((with_reducible refine gate_dst (N := 1) rfl ?_); (try (refine gate_guard (by rfl) ?_; dsimp only)); refine box_event ?hg (N := 1) ?hd (cs := #[.int .i64 0, .int .i64 0, .int .i64 0, .int .i64 0]) (t := 37) ?hr ?_; (case hd => rfl); (case hg => rfl); (case hr => first | (go_simp; done) | (go_simp; rfl)); intro gb152 hg w21 hbox hb; have n0_ := Aside0.mk (below_step (by repeat (first | (with_reducible first | exact HB.out | apply below_alloc | apply pw_below_drewN | apply below_drew1) | exact HB.out)) hb); have n1_ := Aside0.mk (hbox); have n2_ := Aside0.mk ((by rw [hg]; exact (below_size (by repeat (first | (with_reducible first | exact HB.out | apply below_alloc | apply pw_below_drewN | apply below_drew1) | exact HB.out))) : w.heap.size ≤ gb152)); have n3_ := Aside0.mk ((by rw [hg]; exact (below_size (by repeat (first | (with_reducible first | exact HB.out | apply below_alloc | apply pw_below_drewN | apply below_drew1) | exact HB.out))) : w.heap.size ≤ gb152)); clear HB; have HB := n0_; have BK152 := n1_; have GW152 := n2_; have GE152 := n3_; clear n0_ n1_ n2_ n3_; clear hb hbox hg; have hcz22_0 : w21.cell? ⟨gb152, 0, none⟩ = some (.int .i64 0) := (blk_cell BK152.out 0).trans rfl; have hcz22_1 : w21.cell? ⟨gb152, 1, none⟩ = some (.int .i64 0) := (blk_cell BK152.out 1).trans rfl; have hcz22_2 : w21.cell? ⟨gb152, 2, none⟩ = some (.int .i64 0) := (blk_cell BK152.out 2).trans rfl; have hcz22_3 : w21.cell? ⟨gb152, 3, none⟩ = some (.int .i64 0) := (blk_cell BK152.out 3).trans rfl; have hfz22_0 := blk_frozen BK152.out 0; have hfz22_1 := blk_frozen BK152.out 1; have hfz22_2 := blk_frozen BK152.out 2; have hfz22_3 := blk_frozen BK152.out 3) | ((with_reducible refine gate_dst (N := 9) rfl ?_); (try (refine gate_guard (by rfl) ?_; dsimp only)); refine Kd.R_lit k39 _ 39 ?hg (N := 9) ?hd (xs := ([(⟨0, 0, (⟨0, 0, 1, 1⟩ : S37), (⟨0, 0, 0, 0⟩ : S37), (⟨0, 0, 1, 1⟩ : S37), 7⟩ : S39)] : List (S39))) (inner := [.int .i64 0, .int .i64 0, .int .i64 0, .int .i64 0, .int .i64 1, .int .i64 1, .int .i64 0, .int .i64 0, .int .i64 0, .int .i64 0, .int .i64 0, .int .i64 0, .int .i64 1, .int .i64 1, .int .i64 7]) (ok := fun _ => True) (okp := fun _ => True) ?hr ?hp (fun _ hk => hk) trivial (Below.refl _ _) (Nat.le_refl _) (by simp) ?_; (case hd => rfl); (case hg => rfl); (case hr => first | (go_simp; done) | (go_simp; rfl)); (case hp => exact (Reps.front (show Kd.M k39 _ _ _ (⟨0, 0, (⟨0, 0, 1, 1⟩ : S37), (⟨0, 0, 0, 0⟩ : S37), (⟨0, 0, 1, 1⟩ : S37), 7⟩ : S39) [.int .i64 0, .int .i64 0, .int .i64 0, .int .i64 0, .int .i64 1, .int .i64 1, .int .i64 0, .int .i64 0, .int .i64 0, .int .i64 0, .int .i64 0, .int .i64 0, .int .i64 1, .int .i64 1, .int .i64 7] from (k39_mkM _ _ _ (⟨0, 0, (⟨0, 0, 1, 1⟩ : S37), (⟨0, 0, 0, 0⟩ : S37), (⟨0, 0, 1, 1⟩ : S37), 7⟩ : S39) )) rfl (Reps.none _ _) rfl)); intro v154 w23 ho24 hb hg_ hnew_; clear hg_ hnew_; (first | rw [← Ny153.out] at ho24 | (simp only [Int.reduceToNat] at ho24; rw [← Ny153.out] at ho24)); have n0_ := Aside0.mk (Kd.R_lower ho24 (below_size (by repeat (first | (with_reducible first | exact HB.out | apply below_alloc | apply pw_below_drewN | apply below_drew1 | refine below_set ?_ GE152.out) | exact HB.out)))); have n1_ := Aside0.mk (blk_below (g := gb152) (o := .cells #[.int .i64 0, .int .i64 0, .int .i64 1, .int .i64 1] 37 (0, 0)) (by (with_reducible repeat (first | refine blk_drewN ?_ _ | refine blk_drew ?_ | refine blk_alloc ?_ _)); refine blk_put (cs := #[.int .i64 0, .int .i64 0, .int .i64 1, .int .i64 0]) ?_ 3 _ rfl; (with_reducible repeat (first | refine blk_drewN ?_ _ | refine blk_drew ?_ | refine blk_alloc ?_ _)); refine blk_put (cs := #[.int .i64 0, .int .i64 0, .int .i64 0, .int .i64 0]) ?_ 2 _ rfl; (with_reducible repeat (first | refine blk_drewN ?_ _ | refine blk_drew ?_ | refine blk_alloc ?_ _)); refine blk_put (cs := #[.int .i64 0, .int .i64 0, .int .i64 0, .int .i64 0]) ?_ 1 _ rfl; (with_reducible repeat (first | refine blk_drewN ?_ _ | refine blk_drew ?_ | refine blk_alloc ?_ _)); refine blk_put (cs := #[.int .i64 0, .int .i64 0, .int .i64 0, .int .i64 0]) ?_ 0 _ rfl; (with_reducible repeat (first | refine blk_drewN ?_ _ | refine blk_drew ?_ | refine blk_alloc ?_ _)); exact BK152.out) hb); have n2_ := Aside0.mk (below_step (by repeat (first | (with_reducible first | exact HB.out | apply below_alloc | apply pw_below_drewN | apply below_drew1 | refine below_set ?_ GE152.out) | exact HB.out)) hb); clear BK152; clear HB; have HO155 := n0_; have BK152 := n1_; have HB := n2_; clear n0_ n1_ n2_; clear hb ho24; obtain ⟨Ao25, co25, eo25⟩ := Kd.R_slice HO155.out; subst eo25) | ((with_reducible refine gate_callee (f := 28) rfl ?_); refine goesL_ (some 11) rfl rfl Try.func28 (by kernel_rfl) rfl #[.slice Ao25 y153.length co25, .agg #[.int .i64 0, .int .i64 0, .int .i64 1, .int .i64 2, .int .i64 1]] rfl (by (try simp only [List.map_toArray, List.map_cons, List.map_nil]); first | done | rfl | (simp only [List.length_drop, List.length_take]; rfl)) ?_; (with_reducible refine (raster_Draw.calls k _ _ y153 0 0 1 2 1 t156 t159 _ ?side1 ?side2 A1.out).mono ?_); (case side1 => repeat (first | exact (Kd.R_reads' HO155.out).2.2 | (with_reducible refine Kd.C_alloc ?_ _) | (with_reducible refine Kd.C_drewN ?_ _) | (with_reducible refine Kd.C_drew ?_))); (case side2 => exact (Kd.R_reads' HO155.out).2.1); rintro e w26 ⟨v157, rfl, ho0, hb⟩; refine ⟨_, rfl, ?_⟩; have n0_ := Aside0.mk (Kd.R_below (by (with_reducible repeat (first | apply Kd.R_alloc | apply Kd.R_drewN | apply Kd.R_drew)); exact HO155.out) hb); have n1_ := Aside0.mk (Kd.R_lower ho0 (below_size (by repeat (first | (with_reducible first | exact HB.out | apply below_alloc | apply pw_below_drewN | apply below_drew1 | refine below_set ?_ GE152.out) | exact HB.out)))); have n2_ := Aside0.mk (blk_below (g := gb152) (o := .cells #[.int .i64 0, .int .i64 0, .int .i64 1, .int .i64 1] 37 (0, 0)) (by (with_reducible repeat (first | refine blk_drewN ?_ _ | refine blk_drew ?_ | refine blk_alloc ?_ _)); exact BK152.out) hb); have n3_ := Aside0.mk (below_step (by repeat (first | (with_reducible first | exact HB.out | apply below_alloc | apply pw_below_drewN | apply below_drew1 | refine below_set ?_ GE152.out) | exact HB.out)) hb); clear HO155; clear BK152; clear HB; have HO155 := n0_; have HO158 := n1_; have BK152 := n2_; have HB := n3_; clear n0_ n1_ n2_ n3_; (try clear hb); (try clear hb2); (try clear hk); (try clear hi); (try clear ho0); obtain ⟨Ao27, co27, eo27⟩ := Kd.R_slice HO158.out; subst eo27))
   go_ret
   exact ⟨by first | rfl | (simp [errW_none, errW_some] <;> rfl) | (simp [*, errW_none, errW_some] <;> rfl), by repeat (first | (with_reducible first | exact HB.out | apply below_alloc | apply pw_below_drewN | apply below_drew1 | refine below_set ?_ GE152.out) | exact HB.out)⟩
 ·rw [if_neg c2] at H
  have c2b0 : (t159 == 0) = false := beq_eq_false_iff_ne.mpr c2
  have c2b1 : (t159 != 0) = true := bne_iff_ne.mpr c2
  obtain rfl := Option.some.inj H
  go_enter Try.func26, Try.ntmps26
  go_wp2_with (first | ((with_reducible refine gate_dst (N := 1) rfl ?_); (try (refine gate_guard (by rfl) ?_; dsimp only)); refine box_event ?hg (N := 1) ?hd (cs := #[.int .i64 0, .int .i64 0, .int .i64 0, .int .i64 0]) (t := 37) ?hr ?_; (case hd => rfl); (case hg => rfl); (case hr => first | (go_simp; done) | (go_simp; rfl)); intro gb152 hg w28 hbox hb; have n0_ := Aside0.mk (below_step (by repeat (first | (with_reducible first | exact HB.out | apply below_alloc | apply pw_below_drewN | apply below_drew1) | exact HB.out)) hb); have n1_ := Aside0.mk (hbox); have n2_ := Aside0.mk ((by rw [hg]; exact (below_size (by repeat (first | (with_reducible first | exact HB.out | apply below_alloc | apply pw_below_drewN | apply below_drew1) | exact HB.out))) : w.heap.size ≤ gb152)); have n3_ := Aside0.mk ((by rw [hg]; exact (below_size (by repeat (first | (with_reducible first | exact HB.out | apply below_alloc | apply pw_below_drewN | apply below_drew1) | exact HB.out))) : w.heap.size ≤ gb152)); clear HB; have HB := n0_; have BK152 := n1_; have GW152 := n2_; have GE152 := n3_; clear n0_ n1_ n2_ n3_; clear hb hbox hg; have hcz29_0 : w28.cell? ⟨gb152, 0, none⟩ = some (.int .i64 0) := (blk_cell BK152.out 0).trans rfl; have hcz29_1 : w28.cell? ⟨gb152, 1, none⟩ = some (.int .i64 0) := (blk_cell BK152.out 1).trans rfl; have hcz29_2 : w28.cell? ⟨gb152, 2, none⟩ = some (.int .i64 0) := (blk_cell BK152.out 2).trans rfl; have hcz29_3 : w28.cell? ⟨gb152, 3, none⟩ = some (.int .i64 0) := (blk_cell BK152.out 3).trans rfl; have hfz29_0 := blk_frozen BK152.out 0; have hfz29_1 := blk_frozen BK152.out 1; have hfz29_2 := blk_frozen BK152.out 2; have hfz29_3 := blk_frozen BK152.out 3) | ((with_reducible refine gate_dst (N := 9) rfl ?_); (try (refine gate_guard (by rfl) ?_; dsimp only)); refine Kd.R_lit k39 _ 39 ?hg (N := 9) ?hd (xs := ([(⟨0, 0, (⟨0, 0, 1, 1⟩ : S37), (⟨0, 0, 0, 0⟩ : S37), (⟨0, 0, 1, 1⟩ : S37), 7⟩ : S39)] : List (S39))) (inner := [.int .i64 0, .int .i64 0, .int .i64 0, .int .i64 0, .int .i64 1, .int .i64 1, .int .i64 0, .int .i64 0, .int .i64 0, .int .i64 0, .int .i64 0, .int .i64 0, .int .i64 1, .int .i64 1, .int .i64 7]) (ok := fun _ => True) (okp := fun _ => True) ?hr ?hp (fun _ hk => hk) trivial (Below.refl _ _) (Nat.le_refl _) (by simp) ?_; (case hd => rfl); (case hg => rfl); (case hr => first | (go_simp; done) | (go_simp; rfl)); (case hp => exact (Reps.front (show Kd.M k39 _ _ _ (⟨0, 0, (⟨0, 0, 1, 1⟩ : S37), (⟨0, 0, 0, 0⟩ : S37), (⟨0, 0, 1, 1⟩ : S37), 7⟩ : S39) [.int .i64 0, .int .i64 0, .int .i64 0, .int .i64 0, .int .i64 1, .int .i64 1, .int .i64 0, .int .i64 0, .int .i64 0, .int .i64 0, .int .i64 0, .int .i64 0, .int .i64 1, .int .i64 1, .int .i64 7] from (k39_mkM _ _ _ (⟨0, 0, (⟨0, 0, 1, 1⟩ : S37), (⟨0, 0, 0, 0⟩ : S37), (⟨0, 0, 1, 1⟩ : S37), 7⟩ : S39) )) rfl (Reps.none _ _) rfl)); intro v154 w30 ho31 hb hg_ hnew_; clear hg_ hnew_; (first | rw [← Ny153.out] at ho31 | (simp only [Int.reduceToNat] at ho31; rw [← Ny153.out] at ho31)); have n0_ := Aside0.mk (Kd.R_lower ho31 (below_size (by repeat (first | (with_reducible first | exact HB.out | apply below_alloc | apply pw_below_drewN | apply below_drew1 | refine below_set ?_ GE152.out) | exact HB.out)))); have n1_ := Aside0.mk (blk_below (g := gb152) (o := .cells #[.int .i64 0, .int .i64 0, .int .i64 1, .int .i64 1] 37 (0, 0)) (by (with_reducible repeat (first | refine blk_drewN ?_ _ | refine blk_drew ?_ | refine blk_alloc ?_ _)); refine blk_put (cs := #[.int .i64 0, .int .i64 0, .int .i64 1, .int .i64 0]) ?_ 3 _ rfl; (with_reducible repeat (first | refine blk_drewN ?_ _ | refine blk_drew ?_ | refine blk_alloc ?_ _)); refine blk_put (cs := #[.int .i64 0, .int .i64 0, .int .i64 0, .int .i64 0]) ?_ 2 _ rfl; (with_reducible repeat (first | refine blk_drewN ?_ _ | refine blk_drew ?_ | refine blk_alloc ?_ _)); refine blk_put (cs := #[.int .i64 0, .int .i64 0, .int .i64 0, .int .i64 0]) ?_ 1 _ rfl; (with_reducible repeat (first | refine blk_drewN ?_ _ | refine blk_drew ?_ | refine blk_alloc ?_ _)); refine blk_put (cs := #[.int .i64 0, .int .i64 0, .int .i64 0, .int .i64 0]) ?_ 0 _ rfl; (with_reducible repeat (first | refine blk_drewN ?_ _ | refine blk_drew ?_ | refine blk_alloc ?_ _)); exact BK152.out) hb); have n2_ := Aside0.mk (below_step (by repeat (first | (with_reducible first | exact HB.out | apply below_alloc | apply pw_below_drewN | apply below_drew1 | refine below_set ?_ GE152.out) | exact HB.out)) hb); clear BK152; clear HB; have HO155 := n0_; have BK152 := n1_; have HB := n2_; clear n0_ n1_ n2_; clear hb ho31; obtain ⟨Ao32, co32, eo32⟩ := Kd.R_slice HO155.out; subst eo32) | ((with_reducible refine gate_callee (f := 28) rfl ?_); refine goesL_ (some 11) rfl rfl Try.func28 (by kernel_rfl) rfl #[.slice Ao32 y153.length co32, .agg #[.int .i64 0, .int .i64 0, .int .i64 1, .int .i64 2, .int .i64 1]] rfl (by (try simp only [List.map_toArray, List.map_cons, List.map_nil]); first | done | rfl | (simp only [List.length_drop, List.length_take]; rfl)) ?_; (with_reducible refine (raster_Draw.calls k _ _ y153 0 0 1 2 1 t156 t159 _ ?side1 ?side2 A1.out).mono ?_); (case side1 => repeat (first | exact (Kd.R_reads' HO155.out).2.2 | (with_reducible refine Kd.C_alloc ?_ _) | (with_reducible refine Kd.C_drewN ?_ _) | (with_reducible refine Kd.C_drew ?_))); (case side2 => exact (Kd.R_reads' HO155.out).2.1); rintro e w33 ⟨v157, rfl, ho0, hb⟩; refine ⟨_, rfl, ?_⟩; have n0_ := Aside0.mk (Kd.R_below (by (with_reducible repeat (first | apply Kd.R_alloc | apply Kd.R_drewN | apply Kd.R_drew)); exact HO155.out) hb); have n1_ := Aside0.mk (Kd.R_lower ho0 (below_size (by repeat (first | (with_reducible first | exact HB.out | apply below_alloc | apply pw_below_drewN | apply below_drew1 | refine below_set ?_ GE152.out) | exact HB.out)))); have n2_ := Aside0.mk (blk_below (g := gb152) (o := .cells #[.int .i64 0, .int .i64 0, .int .i64 1, .int .i64 1] 37 (0, 0)) (by (with_reducible repeat (first | refine blk_drewN ?_ _ | refine blk_drew ?_ | refine blk_alloc ?_ _)); exact BK152.out) hb); have n3_ := Aside0.mk (below_step (by repeat (first | (with_reducible first | exact HB.out | apply below_alloc | apply pw_below_drewN | apply below_drew1 | refine below_set ?_ GE152.out) | exact HB.out)) hb); clear HO155; clear BK152; clear HB; have HO155 := n0_; have HO158 := n1_; have BK152 := n2_; have HB := n3_; clear n0_ n1_ n2_ n3_; (try clear hb); (try clear hb2); (try clear hk); (try clear hi); (try clear ho0)))
  go_ret
  exact ⟨by first | rfl | (simp [errW_none, errW_some] <;> rfl) | (simp [*, errW_none, errW_some] <;> rfl), by repeat (first | (with_reducible first | exact HB.out | apply below_alloc | apply pw_below_drewN | apply below_drew1 | refine below_set ?_ GE152.out) | exact HB.out)⟩

/-! ### decoupageref28_Right: function 27 -/
def decoupageref28_Right.f (a0_0 : Int) (a0_1 : Int) (a0_2 : Int) (a0_3 : Int) (a0_4 : Int) : Option (Bool) := if a0_3 < 1 then (some false) else (if a0_4 < 1 then (some false) else (if a0_3 > 4096 then (some false) else (if a0_3 = 0 then (none) else (if a0_4 > (wrap64 (Int.tdiv 4096 a0_3)) then (some false) else (if a0_2 ≥ 1 then (if a0_2 ≤ 1099511627776 then (if a0_0 ≥ (-1099511627776) then (if a0_0 ≤ 1099511627776 then (if a0_1 ≥ (-1099511627776) then (some (decide (a0_1 ≤ 1099511627776))) else (some false)) else (some false)) else (some false)) else (some false)) else (some false))))))
set_option maxHeartbeats 8000000 in
set_option maxRecDepth 100000 in
theorem decoupageref28_Right.calls (a0_0 : Int) (a0_1 : Int) (a0_2 : Int) (a0_3 : Int) (a0_4 : Int) (r : Bool) (w : World) (h : decoupageref28_Right.f a0_0 a0_1 a0_2 a0_3 a0_4 = some r) :
  Calls Try.prog 27 #[.agg #[.int .i64 a0_0, .int .i64 a0_1, .int .i64 a0_2, .int .i64 a0_3, .int .i64 a0_4]] w fun e w' => e = .returned (.bool r) ∧ Below w.heap.size w w' := by
 have hu46 := Try.underlying46
 have HB := Aside0.mk (Below.refl w.heap.size w)
 have H : (if a0_3 < 1 then (some false) else (if a0_4 < 1 then (some false) else (if a0_3 > 4096 then (some false) else (if a0_3 = 0 then (none) else (if a0_4 > (wrap64 (Int.tdiv 4096 a0_3)) then (some false) else (if a0_2 ≥ 1 then (if a0_2 ≤ 1099511627776 then (if a0_0 ≥ (-1099511627776) then (if a0_0 ≤ 1099511627776 then (if a0_1 ≥ (-1099511627776) then (some (decide (a0_1 ≤ 1099511627776))) else (some false)) else (some false)) else (some false)) else (some false)) else (some false))))))) = some r := h
 clear h
 by_cases c2 : a0_3 < 1
 ·rw [if_pos c2] at H
  have c2b0 : decide (a0_3 < 1) = true := decide_eq_true c2
  clear c2
  obtain rfl := Option.some.inj H
  go_enter Try.func27, Try.ntmps27
  go_wp2_with (first | ((with_reducible refine gate_dst (N := 1) rfl ?_); refine box_event ?hg (N := 1) ?hd (cs := #[.int .i64 a0_0, .int .i64 a0_1, .int .i64 a0_2, .int .i64 a0_3, .int .i64 a0_4]) (t := 46) ?hr ?_; (case hd => rfl); (case hg => rfl); (case hr => first | (go_simp; done) | (go_simp; rfl)); intro gb162 hg w3 hbox hb; have n0_ := Aside0.mk (below_step (by repeat (first | (with_reducible first | exact HB.out | apply below_alloc | apply pw_below_drewN | apply below_drew1) | exact HB.out)) hb); have n1_ := Aside0.mk (hbox); have n2_ := Aside0.mk ((by rw [hg]; exact (below_size (by repeat (first | (with_reducible first | exact HB.out | apply below_alloc | apply pw_below_drewN | apply below_drew1) | exact HB.out))) : w.heap.size ≤ gb162)); have n3_ := Aside0.mk ((by rw [hg]; exact (below_size (by repeat (first | (with_reducible first | exact HB.out | apply below_alloc | apply pw_below_drewN | apply below_drew1) | exact HB.out))) : w.heap.size ≤ gb162)); clear HB; have HB := n0_; have BK162 := n1_; have GW162 := n2_; have GE162 := n3_; clear n0_ n1_ n2_ n3_; clear hb hbox hg; have hcz4_0 : w3.cell? ⟨gb162, 0, none⟩ = some (.int .i64 a0_0) := (blk_cell BK162.out 0).trans rfl; have hcz4_1 : w3.cell? ⟨gb162, 1, none⟩ = some (.int .i64 a0_1) := (blk_cell BK162.out 1).trans rfl; have hcz4_2 : w3.cell? ⟨gb162, 2, none⟩ = some (.int .i64 a0_2) := (blk_cell BK162.out 2).trans rfl; have hcz4_3 : w3.cell? ⟨gb162, 3, none⟩ = some (.int .i64 a0_3) := (blk_cell BK162.out 3).trans rfl; have hcz4_4 : w3.cell? ⟨gb162, 4, none⟩ = some (.int .i64 a0_4) := (blk_cell BK162.out 4).trans rfl; have hfz4_0 := blk_frozen BK162.out 0; have hfz4_1 := blk_frozen BK162.out 1; have hfz4_2 := blk_frozen BK162.out 2; have hfz4_3 := blk_frozen BK162.out 3; have hfz4_4 := blk_frozen BK162.out 4))
  repeat (go_quiet (first | ((with_reducible refine gate_dst (N := 1) rfl ?_); refine box_event ?hg (N := 1) ?hd (cs := #[.int .i64 a0_0, .int .i64 a0_1, .int .i64 a0_2, .int .i64 a0_3, .int .i64 a0_4]) (t := 46) ?hr ?_; (case hd => rfl); (case hg => rfl); (case hr => first | (go_simp; done) | (go_simp; rfl)); intro gb162 hg w3 hbox hb; have n0_ := Aside0.mk (below_step (by repeat (first | (with_reducible first | exact HB.out | apply below_alloc | apply pw_below_drewN | apply below_drew1) | exact HB.out)) hb); have n1_ := Aside0.mk (hbox); have n2_ := Aside0.mk ((by rw [hg]; exact (below_size (by repeat (first | (with_reducible first | exact HB.out | apply below_alloc | apply pw_below_drewN | apply below_drew1) | exact HB.out))) : w.heap.size ≤ gb162)); have n3_ := Aside0.mk ((by rw [hg]; exact (below_size (by repeat (first | (with_reducible first | exact HB.out | apply below_alloc | apply pw_below_drewN | apply below_drew1) | exact HB.out))) : w.heap.size ≤ gb162)); clear HB; have HB := n0_; have BK162 := n1_; have GW162 := n2_; have GE162 := n3_; clear n0_ n1_ n2_ n3_; clear hb hbox hg; have hcz4_0 : w3.cell? ⟨gb162, 0, none⟩ = some (.int .i64 a0_0) := (blk_cell BK162.out 0).trans rfl; have hcz4_1 : w3.cell? ⟨gb162, 1, none⟩ = some (.int .i64 a0_1) := (blk_cell BK162.out 1).trans rfl; have hcz4_2 : w3.cell? ⟨gb162, 2, none⟩ = some (.int .i64 a0_2) := (blk_cell BK162.out 2).trans rfl; have hcz4_3 : w3.cell? ⟨gb162, 3, none⟩ = some (.int .i64 a0_3) := (blk_cell BK162.out 3).trans rfl; have hcz4_4 : w3.cell? ⟨gb162, 4, none⟩ = some (.int .i64 a0_4) := (blk_cell BK162.out 4).trans rfl; have hfz4_0 := blk_frozen BK162.out 0; have hfz4_1 := blk_frozen BK162.out 1; have hfz4_2 := blk_frozen BK162.out 2; have hfz4_3 := blk_frozen BK162.out 3; have hfz4_4 := blk_frozen BK162.out 4)); try go_wp2_with (first | ((with_reducible refine gate_dst (N := 1) rfl ?_); refine box_event ?hg (N := 1) ?hd (cs := #[.int .i64 a0_0, .int .i64 a0_1, .int .i64 a0_2, .int .i64 a0_3, .int .i64 a0_4]) (t := 46) ?hr ?_; (case hd => rfl); (case hg => rfl); (case hr => first | (go_simp; done) | (go_simp; rfl)); intro gb162 hg w3 hbox hb; have n0_ := Aside0.mk (below_step (by repeat (first | (with_reducible first | exact HB.out | apply below_alloc | apply pw_below_drewN | apply below_drew1) | exact HB.out)) hb); have n1_ := Aside0.mk (hbox); have n2_ := Aside0.mk ((by rw [hg]; exact (below_size (by repeat (first | (with_reducible first | exact HB.out | apply below_alloc | apply pw_below_drewN | apply below_drew1) | exact HB.out))) : w.heap.size ≤ gb162)); have n3_ := Aside0.mk ((by rw [hg]; exact (below_size (by repeat (first | (with_reducible first | exact HB.out | apply below_alloc | apply pw_below_drewN | apply below_drew1) | exact HB.out))) : w.heap.size ≤ gb162)); clear HB; have HB := n0_; have BK162 := n1_; have GW162 := n2_; have GE162 := n3_; clear n0_ n1_ n2_ n3_; clear hb hbox hg; have hcz4_0 : w3.cell? ⟨gb162, 0, none⟩ = some (.int .i64 a0_0) := (blk_cell BK162.out 0).trans rfl; have hcz4_1 : w3.cell? ⟨gb162, 1, none⟩ = some (.int .i64 a0_1) := (blk_cell BK162.out 1).trans rfl; have hcz4_2 : w3.cell? ⟨gb162, 2, none⟩ = some (.int .i64 a0_2) := (blk_cell BK162.out 2).trans rfl; have hcz4_3 : w3.cell? ⟨gb162, 3, none⟩ = some (.int .i64 a0_3) := (blk_cell BK162.out 3).trans rfl; have hcz4_4 : w3.cell? ⟨gb162, 4, none⟩ = some (.int .i64 a0_4) := (blk_cell BK162.out 4).trans rfl; have hfz4_0 := blk_frozen BK162.out 0; have hfz4_1 := blk_frozen BK162.out 1; have hfz4_2 := blk_frozen BK162.out 2; have hfz4_3 := blk_frozen BK162.out 3; have hfz4_4 := blk_frozen BK162.out 4)))
  go_ret
  exact ⟨by first | rfl | (simp [errW_none, errW_some] <;> rfl) | (simp [*, errW_none, errW_some] <;> rfl), by repeat (first | (with_reducible first | exact HB.out | apply below_alloc | apply pw_below_drewN | apply below_drew1 | refine below_set ?_ GE162.out) | exact HB.out)⟩
 ·rw [if_neg c2] at H
  have c2b0 : decide (a0_3 < 1) = false := decide_eq_false c2
  clear c2
  by_cases c5 : a0_4 < 1
  ·rw [if_pos c5] at H
   have c5b0 : decide (a0_4 < 1) = true := decide_eq_true c5
   clear c5
   obtain rfl := Option.some.inj H
   go_enter Try.func27, Try.ntmps27
   go_wp2_with (first | ((with_reducible refine gate_dst (N := 1) rfl ?_); refine box_event ?hg (N := 1) ?hd (cs := #[.int .i64 a0_0, .int .i64 a0_1, .int .i64 a0_2, .int .i64 a0_3, .int .i64 a0_4]) (t := 46) ?hr ?_; (case hd => rfl); (case hg => rfl); (case hr => first | (go_simp; done) | (go_simp; rfl)); intro gb162 hg w6 hbox hb; have n0_ := Aside0.mk (below_step (by repeat (first | (with_reducible first | exact HB.out | apply below_alloc | apply pw_below_drewN | apply below_drew1) | exact HB.out)) hb); have n1_ := Aside0.mk (hbox); have n2_ := Aside0.mk ((by rw [hg]; exact (below_size (by repeat (first | (with_reducible first | exact HB.out | apply below_alloc | apply pw_below_drewN | apply below_drew1) | exact HB.out))) : w.heap.size ≤ gb162)); have n3_ := Aside0.mk ((by rw [hg]; exact (below_size (by repeat (first | (with_reducible first | exact HB.out | apply below_alloc | apply pw_below_drewN | apply below_drew1) | exact HB.out))) : w.heap.size ≤ gb162)); clear HB; have HB := n0_; have BK162 := n1_; have GW162 := n2_; have GE162 := n3_; clear n0_ n1_ n2_ n3_; clear hb hbox hg; have hcz7_0 : w6.cell? ⟨gb162, 0, none⟩ = some (.int .i64 a0_0) := (blk_cell BK162.out 0).trans rfl; have hcz7_1 : w6.cell? ⟨gb162, 1, none⟩ = some (.int .i64 a0_1) := (blk_cell BK162.out 1).trans rfl; have hcz7_2 : w6.cell? ⟨gb162, 2, none⟩ = some (.int .i64 a0_2) := (blk_cell BK162.out 2).trans rfl; have hcz7_3 : w6.cell? ⟨gb162, 3, none⟩ = some (.int .i64 a0_3) := (blk_cell BK162.out 3).trans rfl; have hcz7_4 : w6.cell? ⟨gb162, 4, none⟩ = some (.int .i64 a0_4) := (blk_cell BK162.out 4).trans rfl; have hfz7_0 := blk_frozen BK162.out 0; have hfz7_1 := blk_frozen BK162.out 1; have hfz7_2 := blk_frozen BK162.out 2; have hfz7_3 := blk_frozen BK162.out 3; have hfz7_4 := blk_frozen BK162.out 4))
   repeat (go_quiet (first | ((with_reducible refine gate_dst (N := 1) rfl ?_); refine box_event ?hg (N := 1) ?hd (cs := #[.int .i64 a0_0, .int .i64 a0_1, .int .i64 a0_2, .int .i64 a0_3, .int .i64 a0_4]) (t := 46) ?hr ?_; (case hd => rfl); (case hg => rfl); (case hr => first | (go_simp; done) | (go_simp; rfl)); intro gb162 hg w6 hbox hb; have n0_ := Aside0.mk (below_step (by repeat (first | (with_reducible first | exact HB.out | apply below_alloc | apply pw_below_drewN | apply below_drew1) | exact HB.out)) hb); have n1_ := Aside0.mk (hbox); have n2_ := Aside0.mk ((by rw [hg]; exact (below_size (by repeat (first | (with_reducible first | exact HB.out | apply below_alloc | apply pw_below_drewN | apply below_drew1) | exact HB.out))) : w.heap.size ≤ gb162)); have n3_ := Aside0.mk ((by rw [hg]; exact (below_size (by repeat (first | (with_reducible first | exact HB.out | apply below_alloc | apply pw_below_drewN | apply below_drew1) | exact HB.out))) : w.heap.size ≤ gb162)); clear HB; have HB := n0_; have BK162 := n1_; have GW162 := n2_; have GE162 := n3_; clear n0_ n1_ n2_ n3_; clear hb hbox hg; have hcz7_0 : w6.cell? ⟨gb162, 0, none⟩ = some (.int .i64 a0_0) := (blk_cell BK162.out 0).trans rfl; have hcz7_1 : w6.cell? ⟨gb162, 1, none⟩ = some (.int .i64 a0_1) := (blk_cell BK162.out 1).trans rfl; have hcz7_2 : w6.cell? ⟨gb162, 2, none⟩ = some (.int .i64 a0_2) := (blk_cell BK162.out 2).trans rfl; have hcz7_3 : w6.cell? ⟨gb162, 3, none⟩ = some (.int .i64 a0_3) := (blk_cell BK162.out 3).trans rfl; have hcz7_4 : w6.cell? ⟨gb162, 4, none⟩ = some (.int .i64 a0_4) := (blk_cell BK162.out 4).trans rfl; have hfz7_0 := blk_frozen BK162.out 0; have hfz7_1 := blk_frozen BK162.out 1; have hfz7_2 := blk_frozen BK162.out 2; have hfz7_3 := blk_frozen BK162.out 3; have hfz7_4 := blk_frozen BK162.out 4)); try go_wp2_with (first | ((with_reducible refine gate_dst (N := 1) rfl ?_); refine box_event ?hg (N := 1) ?hd (cs := #[.int .i64 a0_0, .int .i64 a0_1, .int .i64 a0_2, .int .i64 a0_3, .int .i64 a0_4]) (t := 46) ?hr ?_; (case hd => rfl); (case hg => rfl); (case hr => first | (go_simp; done) | (go_simp; rfl)); intro gb162 hg w6 hbox hb; have n0_ := Aside0.mk (below_step (by repeat (first | (with_reducible first | exact HB.out | apply below_alloc | apply pw_below_drewN | apply below_drew1) | exact HB.out)) hb); have n1_ := Aside0.mk (hbox); have n2_ := Aside0.mk ((by rw [hg]; exact (below_size (by repeat (first | (with_reducible first | exact HB.out | apply below_alloc | apply pw_below_drewN | apply below_drew1) | exact HB.out))) : w.heap.size ≤ gb162)); have n3_ := Aside0.mk ((by rw [hg]; exact (below_size (by repeat (first | (with_reducible first | exact HB.out | apply below_alloc | apply pw_below_drewN | apply below_drew1) | exact HB.out))) : w.heap.size ≤ gb162)); clear HB; have HB := n0_; have BK162 := n1_; have GW162 := n2_; have GE162 := n3_; clear n0_ n1_ n2_ n3_; clear hb hbox hg; have hcz7_0 : w6.cell? ⟨gb162, 0, none⟩ = some (.int .i64 a0_0) := (blk_cell BK162.out 0).trans rfl; have hcz7_1 : w6.cell? ⟨gb162, 1, none⟩ = some (.int .i64 a0_1) := (blk_cell BK162.out 1).trans rfl; have hcz7_2 : w6.cell? ⟨gb162, 2, none⟩ = some (.int .i64 a0_2) := (blk_cell BK162.out 2).trans rfl; have hcz7_3 : w6.cell? ⟨gb162, 3, none⟩ = some (.int .i64 a0_3) := (blk_cell BK162.out 3).trans rfl; have hcz7_4 : w6.cell? ⟨gb162, 4, none⟩ = some (.int .i64 a0_4) := (blk_cell BK162.out 4).trans rfl; have hfz7_0 := blk_frozen BK162.out 0; have hfz7_1 := blk_frozen BK162.out 1; have hfz7_2 := blk_frozen BK162.out 2; have hfz7_3 := blk_frozen BK162.out 3; have hfz7_4 := blk_frozen BK162.out 4)))
   go_ret
   exact ⟨by first | rfl | (simp [errW_none, errW_some] <;> rfl) | (simp [*, errW_none, errW_some] <;> rfl), by repeat (first | (with_reducible first | exact HB.out | apply below_alloc | apply pw_below_drewN | apply below_drew1 | refine below_set ?_ GE162.out) | exact HB.out)⟩
  ·rw [if_neg c5] at H
   have c5b0 : decide (a0_4 < 1) = false := decide_eq_false c5
   clear c5
   by_cases c8 : a0_3 > 4096
   ·rw [if_pos c8] at H
    have c8b0 : decide (4096 < a0_3) = true := decide_eq_true c8
    clear c8
    obtain rfl := Option.some.inj H
    go_enter Try.func27, Try.ntmps27
    go_wp2_with (first | ((with_reducible refine gate_dst (N := 1) rfl ?_); refine box_event ?hg (N := 1) ?hd (cs := #[.int .i64 a0_0, .int .i64 a0_1, .int .i64 a0_2, .int .i64 a0_3, .int .i64 a0_4]) (t := 46) ?hr ?_; (case hd => rfl); (case hg => rfl); (case hr => first | (go_simp; done) | (go_simp; rfl)); intro gb162 hg w9 hbox hb; have n0_ := Aside0.mk (below_step (by repeat (first | (with_reducible first | exact HB.out | apply below_alloc | apply pw_below_drewN | apply below_drew1) | exact HB.out)) hb); have n1_ := Aside0.mk (hbox); have n2_ := Aside0.mk ((by rw [hg]; exact (below_size (by repeat (first | (with_reducible first | exact HB.out | apply below_alloc | apply pw_below_drewN | apply below_drew1) | exact HB.out))) : w.heap.size ≤ gb162)); have n3_ := Aside0.mk ((by rw [hg]; exact (below_size (by repeat (first | (with_reducible first | exact HB.out | apply below_alloc | apply pw_below_drewN | apply below_drew1) | exact HB.out))) : w.heap.size ≤ gb162)); clear HB; have HB := n0_; have BK162 := n1_; have GW162 := n2_; have GE162 := n3_; clear n0_ n1_ n2_ n3_; clear hb hbox hg; have hcz10_0 : w9.cell? ⟨gb162, 0, none⟩ = some (.int .i64 a0_0) := (blk_cell BK162.out 0).trans rfl; have hcz10_1 : w9.cell? ⟨gb162, 1, none⟩ = some (.int .i64 a0_1) := (blk_cell BK162.out 1).trans rfl; have hcz10_2 : w9.cell? ⟨gb162, 2, none⟩ = some (.int .i64 a0_2) := (blk_cell BK162.out 2).trans rfl; have hcz10_3 : w9.cell? ⟨gb162, 3, none⟩ = some (.int .i64 a0_3) := (blk_cell BK162.out 3).trans rfl; have hcz10_4 : w9.cell? ⟨gb162, 4, none⟩ = some (.int .i64 a0_4) := (blk_cell BK162.out 4).trans rfl; have hfz10_0 := blk_frozen BK162.out 0; have hfz10_1 := blk_frozen BK162.out 1; have hfz10_2 := blk_frozen BK162.out 2; have hfz10_3 := blk_frozen BK162.out 3; have hfz10_4 := blk_frozen BK162.out 4))
    repeat (go_quiet (first | ((with_reducible refine gate_dst (N := 1) rfl ?_); refine box_event ?hg (N := 1) ?hd (cs := #[.int .i64 a0_0, .int .i64 a0_1, .int .i64 a0_2, .int .i64 a0_3, .int .i64 a0_4]) (t := 46) ?hr ?_; (case hd => rfl); (case hg => rfl); (case hr => first | (go_simp; done) | (go_simp; rfl)); intro gb162 hg w9 hbox hb; have n0_ := Aside0.mk (below_step (by repeat (first | (with_reducible first | exact HB.out | apply below_alloc | apply pw_below_drewN | apply below_drew1) | exact HB.out)) hb); have n1_ := Aside0.mk (hbox); have n2_ := Aside0.mk ((by rw [hg]; exact (below_size (by repeat (first | (with_reducible first | exact HB.out | apply below_alloc | apply pw_below_drewN | apply below_drew1) | exact HB.out))) : w.heap.size ≤ gb162)); have n3_ := Aside0.mk ((by rw [hg]; exact (below_size (by repeat (first | (with_reducible first | exact HB.out | apply below_alloc | apply pw_below_drewN | apply below_drew1) | exact HB.out))) : w.heap.size ≤ gb162)); clear HB; have HB := n0_; have BK162 := n1_; have GW162 := n2_; have GE162 := n3_; clear n0_ n1_ n2_ n3_; clear hb hbox hg; have hcz10_0 : w9.cell? ⟨gb162, 0, none⟩ = some (.int .i64 a0_0) := (blk_cell BK162.out 0).trans rfl; have hcz10_1 : w9.cell? ⟨gb162, 1, none⟩ = some (.int .i64 a0_1) := (blk_cell BK162.out 1).trans rfl; have hcz10_2 : w9.cell? ⟨gb162, 2, none⟩ = some (.int .i64 a0_2) := (blk_cell BK162.out 2).trans rfl; have hcz10_3 : w9.cell? ⟨gb162, 3, none⟩ = some (.int .i64 a0_3) := (blk_cell BK162.out 3).trans rfl; have hcz10_4 : w9.cell? ⟨gb162, 4, none⟩ = some (.int .i64 a0_4) := (blk_cell BK162.out 4).trans rfl; have hfz10_0 := blk_frozen BK162.out 0; have hfz10_1 := blk_frozen BK162.out 1; have hfz10_2 := blk_frozen BK162.out 2; have hfz10_3 := blk_frozen BK162.out 3; have hfz10_4 := blk_frozen BK162.out 4)); try go_wp2_with (first | ((with_reducible refine gate_dst (N := 1) rfl ?_); refine box_event ?hg (N := 1) ?hd (cs := #[.int .i64 a0_0, .int .i64 a0_1, .int .i64 a0_2, .int .i64 a0_3, .int .i64 a0_4]) (t := 46) ?hr ?_; (case hd => rfl); (case hg => rfl); (case hr => first | (go_simp; done) | (go_simp; rfl)); intro gb162 hg w9 hbox hb; have n0_ := Aside0.mk (below_step (by repeat (first | (with_reducible first | exact HB.out | apply below_alloc | apply pw_below_drewN | apply below_drew1) | exact HB.out)) hb); have n1_ := Aside0.mk (hbox); have n2_ := Aside0.mk ((by rw [hg]; exact (below_size (by repeat (first | (with_reducible first | exact HB.out | apply below_alloc | apply pw_below_drewN | apply below_drew1) | exact HB.out))) : w.heap.size ≤ gb162)); have n3_ := Aside0.mk ((by rw [hg]; exact (below_size (by repeat (first | (with_reducible first | exact HB.out | apply below_alloc | apply pw_below_drewN | apply below_drew1) | exact HB.out))) : w.heap.size ≤ gb162)); clear HB; have HB := n0_; have BK162 := n1_; have GW162 := n2_; have GE162 := n3_; clear n0_ n1_ n2_ n3_; clear hb hbox hg; have hcz10_0 : w9.cell? ⟨gb162, 0, none⟩ = some (.int .i64 a0_0) := (blk_cell BK162.out 0).trans rfl; have hcz10_1 : w9.cell? ⟨gb162, 1, none⟩ = some (.int .i64 a0_1) := (blk_cell BK162.out 1).trans rfl; have hcz10_2 : w9.cell? ⟨gb162, 2, none⟩ = some (.int .i64 a0_2) := (blk_cell BK162.out 2).trans rfl; have hcz10_3 : w9.cell? ⟨gb162, 3, none⟩ = some (.int .i64 a0_3) := (blk_cell BK162.out 3).trans rfl; have hcz10_4 : w9.cell? ⟨gb162, 4, none⟩ = some (.int .i64 a0_4) := (blk_cell BK162.out 4).trans rfl; have hfz10_0 := blk_frozen BK162.out 0; have hfz10_1 := blk_frozen BK162.out 1; have hfz10_2 := blk_frozen BK162.out 2; have hfz10_3 := blk_frozen BK162.out 3; have hfz10_4 := blk_frozen BK162.out 4)))
    go_ret
    exact ⟨by first | rfl | (simp [errW_none, errW_some] <;> rfl) | (simp [*, errW_none, errW_some] <;> rfl), by repeat (first | (with_reducible first | exact HB.out | apply below_alloc | apply pw_below_drewN | apply below_drew1 | refine below_set ?_ GE162.out) | exact HB.out)⟩
   ·rw [if_neg c8] at H
    have c8b0 : decide (4096 < a0_3) = false := decide_eq_false c8
    clear c8
    by_cases c11 : a0_3 = 0
    ·rw [if_pos c11] at H
     exact absurd H (by simp)
    ·rw [if_neg c11] at H
     have c11b0 : (a0_3 == 0) = false := beq_eq_false_iff_ne.mpr c11
     have c11b1 : (a0_3 != 0) = true := bne_iff_ne.mpr c11
     by_cases c12 : a0_4 > (wrap64 (Int.tdiv 4096 a0_3))
     ·rw [if_pos c12] at H
      have c12b0 : decide ((wrap64 (Int.tdiv 4096 a0_3)) < a0_4) = true := decide_eq_true c12
      clear c12
      obtain rfl := Option.some.inj H
      go_enter Try.func27, Try.ntmps27
      go_wp2_with (first | ((with_reducible refine gate_dst (N := 1) rfl ?_); refine box_event ?hg (N := 1) ?hd (cs := #[.int .i64 a0_0, .int .i64 a0_1, .int .i64 a0_2, .int .i64 a0_3, .int .i64 a0_4]) (t := 46) ?hr ?_; (case hd => rfl); (case hg => rfl); (case hr => first | (go_simp; done) | (go_simp; rfl)); intro gb162 hg w13 hbox hb; have n0_ := Aside0.mk (below_step (by repeat (first | (with_reducible first | exact HB.out | apply below_alloc | apply pw_below_drewN | apply below_drew1) | exact HB.out)) hb); have n1_ := Aside0.mk (hbox); have n2_ := Aside0.mk ((by rw [hg]; exact (below_size (by repeat (first | (with_reducible first | exact HB.out | apply below_alloc | apply pw_below_drewN | apply below_drew1) | exact HB.out))) : w.heap.size ≤ gb162)); have n3_ := Aside0.mk ((by rw [hg]; exact (below_size (by repeat (first | (with_reducible first | exact HB.out | apply below_alloc | apply pw_below_drewN | apply below_drew1) | exact HB.out))) : w.heap.size ≤ gb162)); clear HB; have HB := n0_; have BK162 := n1_; have GW162 := n2_; have GE162 := n3_; clear n0_ n1_ n2_ n3_; clear hb hbox hg; have hcz14_0 : w13.cell? ⟨gb162, 0, none⟩ = some (.int .i64 a0_0) := (blk_cell BK162.out 0).trans rfl; have hcz14_1 : w13.cell? ⟨gb162, 1, none⟩ = some (.int .i64 a0_1) := (blk_cell BK162.out 1).trans rfl; have hcz14_2 : w13.cell? ⟨gb162, 2, none⟩ = some (.int .i64 a0_2) := (blk_cell BK162.out 2).trans rfl; have hcz14_3 : w13.cell? ⟨gb162, 3, none⟩ = some (.int .i64 a0_3) := (blk_cell BK162.out 3).trans rfl; have hcz14_4 : w13.cell? ⟨gb162, 4, none⟩ = some (.int .i64 a0_4) := (blk_cell BK162.out 4).trans rfl; have hfz14_0 := blk_frozen BK162.out 0; have hfz14_1 := blk_frozen BK162.out 1; have hfz14_2 := blk_frozen BK162.out 2; have hfz14_3 := blk_frozen BK162.out 3; have hfz14_4 := blk_frozen BK162.out 4))
      repeat (go_quiet (first | ((with_reducible refine gate_dst (N := 1) rfl ?_); refine box_event ?hg (N := 1) ?hd (cs := #[.int .i64 a0_0, .int .i64 a0_1, .int .i64 a0_2, .int .i64 a0_3, .int .i64 a0_4]) (t := 46) ?hr ?_; (case hd => rfl); (case hg => rfl); (case hr => first | (go_simp; done) | (go_simp; rfl)); intro gb162 hg w13 hbox hb; have n0_ := Aside0.mk (below_step (by repeat (first | (with_reducible first | exact HB.out | apply below_alloc | apply pw_below_drewN | apply below_drew1) | exact HB.out)) hb); have n1_ := Aside0.mk (hbox); have n2_ := Aside0.mk ((by rw [hg]; exact (below_size (by repeat (first | (with_reducible first | exact HB.out | apply below_alloc | apply pw_below_drewN | apply below_drew1) | exact HB.out))) : w.heap.size ≤ gb162)); have n3_ := Aside0.mk ((by rw [hg]; exact (below_size (by repeat (first | (with_reducible first | exact HB.out | apply below_alloc | apply pw_below_drewN | apply below_drew1) | exact HB.out))) : w.heap.size ≤ gb162)); clear HB; have HB := n0_; have BK162 := n1_; have GW162 := n2_; have GE162 := n3_; clear n0_ n1_ n2_ n3_; clear hb hbox hg; have hcz14_0 : w13.cell? ⟨gb162, 0, none⟩ = some (.int .i64 a0_0) := (blk_cell BK162.out 0).trans rfl; have hcz14_1 : w13.cell? ⟨gb162, 1, none⟩ = some (.int .i64 a0_1) := (blk_cell BK162.out 1).trans rfl; have hcz14_2 : w13.cell? ⟨gb162, 2, none⟩ = some (.int .i64 a0_2) := (blk_cell BK162.out 2).trans rfl; have hcz14_3 : w13.cell? ⟨gb162, 3, none⟩ = some (.int .i64 a0_3) := (blk_cell BK162.out 3).trans rfl; have hcz14_4 : w13.cell? ⟨gb162, 4, none⟩ = some (.int .i64 a0_4) := (blk_cell BK162.out 4).trans rfl; have hfz14_0 := blk_frozen BK162.out 0; have hfz14_1 := blk_frozen BK162.out 1; have hfz14_2 := blk_frozen BK162.out 2; have hfz14_3 := blk_frozen BK162.out 3; have hfz14_4 := blk_frozen BK162.out 4)); try go_wp2_with (first | ((with_reducible refine gate_dst (N := 1) rfl ?_); refine box_event ?hg (N := 1) ?hd (cs := #[.int .i64 a0_0, .int .i64 a0_1, .int .i64 a0_2, .int .i64 a0_3, .int .i64 a0_4]) (t := 46) ?hr ?_; (case hd => rfl); (case hg => rfl); (case hr => first | (go_simp; done) | (go_simp; rfl)); intro gb162 hg w13 hbox hb; have n0_ := Aside0.mk (below_step (by repeat (first | (with_reducible first | exact HB.out | apply below_alloc | apply pw_below_drewN | apply below_drew1) | exact HB.out)) hb); have n1_ := Aside0.mk (hbox); have n2_ := Aside0.mk ((by rw [hg]; exact (below_size (by repeat (first | (with_reducible first | exact HB.out | apply below_alloc | apply pw_below_drewN | apply below_drew1) | exact HB.out))) : w.heap.size ≤ gb162)); have n3_ := Aside0.mk ((by rw [hg]; exact (below_size (by repeat (first | (with_reducible first | exact HB.out | apply below_alloc | apply pw_below_drewN | apply below_drew1) | exact HB.out))) : w.heap.size ≤ gb162)); clear HB; have HB := n0_; have BK162 := n1_; have GW162 := n2_; have GE162 := n3_; clear n0_ n1_ n2_ n3_; clear hb hbox hg; have hcz14_0 : w13.cell? ⟨gb162, 0, none⟩ = some (.int .i64 a0_0) := (blk_cell BK162.out 0).trans rfl; have hcz14_1 : w13.cell? ⟨gb162, 1, none⟩ = some (.int .i64 a0_1) := (blk_cell BK162.out 1).trans rfl; have hcz14_2 : w13.cell? ⟨gb162, 2, none⟩ = some (.int .i64 a0_2) := (blk_cell BK162.out 2).trans rfl; have hcz14_3 : w13.cell? ⟨gb162, 3, none⟩ = some (.int .i64 a0_3) := (blk_cell BK162.out 3).trans rfl; have hcz14_4 : w13.cell? ⟨gb162, 4, none⟩ = some (.int .i64 a0_4) := (blk_cell BK162.out 4).trans rfl; have hfz14_0 := blk_frozen BK162.out 0; have hfz14_1 := blk_frozen BK162.out 1; have hfz14_2 := blk_frozen BK162.out 2; have hfz14_3 := blk_frozen BK162.out 3; have hfz14_4 := blk_frozen BK162.out 4)))
      go_ret
      exact ⟨by first | rfl | (simp [errW_none, errW_some] <;> rfl) | (simp [*, errW_none, errW_some] <;> rfl), by repeat (first | (with_reducible first | exact HB.out | apply below_alloc | apply pw_below_drewN | apply below_drew1 | refine below_set ?_ GE162.out) | exact HB.out)⟩
     ·rw [if_neg c12] at H
      have c12b0 : decide ((wrap64 (Int.tdiv 4096 a0_3)) < a0_4) = false := decide_eq_false c12
      clear c12
      by_cases c15 : a0_2 ≥ 1
      ·rw [if_pos c15] at H
       have c15b0 : decide (1 ≤ a0_2) = true := decide_eq_true c15
       clear c15
       by_cases c16 : a0_2 ≤ 1099511627776
       ·rw [if_pos c16] at H
        have c16b0 : decide (a0_2 ≤ 1099511627776) = true := decide_eq_true c16
        clear c16
        by_cases c17 : a0_0 ≥ (-1099511627776)
        ·rw [if_pos c17] at H
         have c17b0 : decide ((-1099511627776) ≤ a0_0) = true := decide_eq_true c17
         clear c17
         by_cases c18 : a0_0 ≤ 1099511627776
         ·rw [if_pos c18] at H
          have c18b0 : decide (a0_0 ≤ 1099511627776) = true := decide_eq_true c18
          clear c18
          by_cases c19 : a0_1 ≥ (-1099511627776)
          ·rw [if_pos c19] at H
           have c19b0 : decide ((-1099511627776) ≤ a0_1) = true := decide_eq_true c19
           clear c19
           obtain rfl := Option.some.inj H
           go_enter Try.func27, Try.ntmps27
           go_wp2_with (first | ((with_reducible refine gate_dst (N := 1) rfl ?_); refine box_event ?hg (N := 1) ?hd (cs := #[.int .i64 a0_0, .int .i64 a0_1, .int .i64 a0_2, .int .i64 a0_3, .int .i64 a0_4]) (t := 46) ?hr ?_; (case hd => rfl); (case hg => rfl); (case hr => first | (go_simp; done) | (go_simp; rfl)); intro gb162 hg w20 hbox hb; have n0_ := Aside0.mk (below_step (by repeat (first | (with_reducible first | exact HB.out | apply below_alloc | apply pw_below_drewN | apply below_drew1) | exact HB.out)) hb); have n1_ := Aside0.mk (hbox); have n2_ := Aside0.mk ((by rw [hg]; exact (below_size (by repeat (first | (with_reducible first | exact HB.out | apply below_alloc | apply pw_below_drewN | apply below_drew1) | exact HB.out))) : w.heap.size ≤ gb162)); have n3_ := Aside0.mk ((by rw [hg]; exact (below_size (by repeat (first | (with_reducible first | exact HB.out | apply below_alloc | apply pw_below_drewN | apply below_drew1) | exact HB.out))) : w.heap.size ≤ gb162)); clear HB; have HB := n0_; have BK162 := n1_; have GW162 := n2_; have GE162 := n3_; clear n0_ n1_ n2_ n3_; clear hb hbox hg; have hcz21_0 : w20.cell? ⟨gb162, 0, none⟩ = some (.int .i64 a0_0) := (blk_cell BK162.out 0).trans rfl; have hcz21_1 : w20.cell? ⟨gb162, 1, none⟩ = some (.int .i64 a0_1) := (blk_cell BK162.out 1).trans rfl; have hcz21_2 : w20.cell? ⟨gb162, 2, none⟩ = some (.int .i64 a0_2) := (blk_cell BK162.out 2).trans rfl; have hcz21_3 : w20.cell? ⟨gb162, 3, none⟩ = some (.int .i64 a0_3) := (blk_cell BK162.out 3).trans rfl; have hcz21_4 : w20.cell? ⟨gb162, 4, none⟩ = some (.int .i64 a0_4) := (blk_cell BK162.out 4).trans rfl; have hfz21_0 := blk_frozen BK162.out 0; have hfz21_1 := blk_frozen BK162.out 1; have hfz21_2 := blk_frozen BK162.out 2; have hfz21_3 := blk_frozen BK162.out 3; have hfz21_4 := blk_frozen BK162.out 4))
           repeat (go_quiet (first | ((with_reducible refine gate_dst (N := 1) rfl ?_); refine box_event ?hg (N := 1) ?hd (cs := #[.int .i64 a0_0, .int .i64 a0_1, .int .i64 a0_2, .int .i64 a0_3, .int .i64 a0_4]) (t := 46) ?hr ?_; (case hd => rfl); (case hg => rfl); (case hr => first | (go_simp; done) | (go_simp; rfl)); intro gb162 hg w20 hbox hb; have n0_ := Aside0.mk (below_step (by repeat (first | (with_reducible first | exact HB.out | apply below_alloc | apply pw_below_drewN | apply below_drew1) | exact HB.out)) hb); have n1_ := Aside0.mk (hbox); have n2_ := Aside0.mk ((by rw [hg]; exact (below_size (by repeat (first | (with_reducible first | exact HB.out | apply below_alloc | apply pw_below_drewN | apply below_drew1) | exact HB.out))) : w.heap.size ≤ gb162)); have n3_ := Aside0.mk ((by rw [hg]; exact (below_size (by repeat (first | (with_reducible first | exact HB.out | apply below_alloc | apply pw_below_drewN | apply below_drew1) | exact HB.out))) : w.heap.size ≤ gb162)); clear HB; have HB := n0_; have BK162 := n1_; have GW162 := n2_; have GE162 := n3_; clear n0_ n1_ n2_ n3_; clear hb hbox hg; have hcz21_0 : w20.cell? ⟨gb162, 0, none⟩ = some (.int .i64 a0_0) := (blk_cell BK162.out 0).trans rfl; have hcz21_1 : w20.cell? ⟨gb162, 1, none⟩ = some (.int .i64 a0_1) := (blk_cell BK162.out 1).trans rfl; have hcz21_2 : w20.cell? ⟨gb162, 2, none⟩ = some (.int .i64 a0_2) := (blk_cell BK162.out 2).trans rfl; have hcz21_3 : w20.cell? ⟨gb162, 3, none⟩ = some (.int .i64 a0_3) := (blk_cell BK162.out 3).trans rfl; have hcz21_4 : w20.cell? ⟨gb162, 4, none⟩ = some (.int .i64 a0_4) := (blk_cell BK162.out 4).trans rfl; have hfz21_0 := blk_frozen BK162.out 0; have hfz21_1 := blk_frozen BK162.out 1; have hfz21_2 := blk_frozen BK162.out 2; have hfz21_3 := blk_frozen BK162.out 3; have hfz21_4 := blk_frozen BK162.out 4)); try go_wp2_with (first | ((with_reducible refine gate_dst (N := 1) rfl ?_); refine box_event ?hg (N := 1) ?hd (cs := #[.int .i64 a0_0, .int .i64 a0_1, .int .i64 a0_2, .int .i64 a0_3, .int .i64 a0_4]) (t := 46) ?hr ?_; (case hd => rfl); (case hg => rfl); (case hr => first | (go_simp; done) | (go_simp; rfl)); intro gb162 hg w20 hbox hb; have n0_ := Aside0.mk (below_step (by repeat (first | (with_reducible first | exact HB.out | apply below_alloc | apply pw_below_drewN | apply below_drew1) | exact HB.out)) hb); have n1_ := Aside0.mk (hbox); have n2_ := Aside0.mk ((by rw [hg]; exact (below_size (by repeat (first | (with_reducible first | exact HB.out | apply below_alloc | apply pw_below_drewN | apply below_drew1) | exact HB.out))) : w.heap.size ≤ gb162)); have n3_ := Aside0.mk ((by rw [hg]; exact (below_size (by repeat (first | (with_reducible first | exact HB.out | apply below_alloc | apply pw_below_drewN | apply below_drew1) | exact HB.out))) : w.heap.size ≤ gb162)); clear HB; have HB := n0_; have BK162 := n1_; have GW162 := n2_; have GE162 := n3_; clear n0_ n1_ n2_ n3_; clear hb hbox hg; have hcz21_0 : w20.cell? ⟨gb162, 0, none⟩ = some (.int .i64 a0_0) := (blk_cell BK162.out 0).trans rfl; have hcz21_1 : w20.cell? ⟨gb162, 1, none⟩ = some (.int .i64 a0_1) := (blk_cell BK162.out 1).trans rfl; have hcz21_2 : w20.cell? ⟨gb162, 2, none⟩ = some (.int .i64 a0_2) := (blk_cell BK162.out 2).trans rfl; have hcz21_3 : w20.cell? ⟨gb162, 3, none⟩ = some (.int .i64 a0_3) := (blk_cell BK162.out 3).trans rfl; have hcz21_4 : w20.cell? ⟨gb162, 4, none⟩ = some (.int .i64 a0_4) := (blk_cell BK162.out 4).trans rfl; have hfz21_0 := blk_frozen BK162.out 0; have hfz21_1 := blk_frozen BK162.out 1; have hfz21_2 := blk_frozen BK162.out 2; have hfz21_3 := blk_frozen BK162.out 3; have hfz21_4 := blk_frozen BK162.out 4)))
           go_ret
           exact ⟨by first | rfl | (simp [errW_none, errW_some] <;> rfl) | (simp [*, errW_none, errW_some] <;> rfl), by repeat (first | (with_reducible first | exact HB.out | apply below_alloc | apply pw_below_drewN | apply below_drew1 | refine below_set ?_ GE162.out) | exact HB.out)⟩
          ·rw [if_neg c19] at H
           have c19b0 : decide ((-1099511627776) ≤ a0_1) = false := decide_eq_false c19
           clear c19
           obtain rfl := Option.some.inj H
           go_enter Try.func27, Try.ntmps27
           go_wp2_with (first | ((with_reducible refine gate_dst (N := 1) rfl ?_); refine box_event ?hg (N := 1) ?hd (cs := #[.int .i64 a0_0, .int .i64 a0_1, .int .i64 a0_2, .int .i64 a0_3, .int .i64 a0_4]) (t := 46) ?hr ?_; (case hd => rfl); (case hg => rfl); (case hr => first | (go_simp; done) | (go_simp; rfl)); intro gb162 hg w22 hbox hb; have n0_ := Aside0.mk (below_step (by repeat (first | (with_reducible first | exact HB.out | apply below_alloc | apply pw_below_drewN | apply below_drew1) | exact HB.out)) hb); have n1_ := Aside0.mk (hbox); have n2_ := Aside0.mk ((by rw [hg]; exact (below_size (by repeat (first | (with_reducible first | exact HB.out | apply below_alloc | apply pw_below_drewN | apply below_drew1) | exact HB.out))) : w.heap.size ≤ gb162)); have n3_ := Aside0.mk ((by rw [hg]; exact (below_size (by repeat (first | (with_reducible first | exact HB.out | apply below_alloc | apply pw_below_drewN | apply below_drew1) | exact HB.out))) : w.heap.size ≤ gb162)); clear HB; have HB := n0_; have BK162 := n1_; have GW162 := n2_; have GE162 := n3_; clear n0_ n1_ n2_ n3_; clear hb hbox hg; have hcz23_0 : w22.cell? ⟨gb162, 0, none⟩ = some (.int .i64 a0_0) := (blk_cell BK162.out 0).trans rfl; have hcz23_1 : w22.cell? ⟨gb162, 1, none⟩ = some (.int .i64 a0_1) := (blk_cell BK162.out 1).trans rfl; have hcz23_2 : w22.cell? ⟨gb162, 2, none⟩ = some (.int .i64 a0_2) := (blk_cell BK162.out 2).trans rfl; have hcz23_3 : w22.cell? ⟨gb162, 3, none⟩ = some (.int .i64 a0_3) := (blk_cell BK162.out 3).trans rfl; have hcz23_4 : w22.cell? ⟨gb162, 4, none⟩ = some (.int .i64 a0_4) := (blk_cell BK162.out 4).trans rfl; have hfz23_0 := blk_frozen BK162.out 0; have hfz23_1 := blk_frozen BK162.out 1; have hfz23_2 := blk_frozen BK162.out 2; have hfz23_3 := blk_frozen BK162.out 3; have hfz23_4 := blk_frozen BK162.out 4))
           repeat (go_quiet (first | ((with_reducible refine gate_dst (N := 1) rfl ?_); refine box_event ?hg (N := 1) ?hd (cs := #[.int .i64 a0_0, .int .i64 a0_1, .int .i64 a0_2, .int .i64 a0_3, .int .i64 a0_4]) (t := 46) ?hr ?_; (case hd => rfl); (case hg => rfl); (case hr => first | (go_simp; done) | (go_simp; rfl)); intro gb162 hg w22 hbox hb; have n0_ := Aside0.mk (below_step (by repeat (first | (with_reducible first | exact HB.out | apply below_alloc | apply pw_below_drewN | apply below_drew1) | exact HB.out)) hb); have n1_ := Aside0.mk (hbox); have n2_ := Aside0.mk ((by rw [hg]; exact (below_size (by repeat (first | (with_reducible first | exact HB.out | apply below_alloc | apply pw_below_drewN | apply below_drew1) | exact HB.out))) : w.heap.size ≤ gb162)); have n3_ := Aside0.mk ((by rw [hg]; exact (below_size (by repeat (first | (with_reducible first | exact HB.out | apply below_alloc | apply pw_below_drewN | apply below_drew1) | exact HB.out))) : w.heap.size ≤ gb162)); clear HB; have HB := n0_; have BK162 := n1_; have GW162 := n2_; have GE162 := n3_; clear n0_ n1_ n2_ n3_; clear hb hbox hg; have hcz23_0 : w22.cell? ⟨gb162, 0, none⟩ = some (.int .i64 a0_0) := (blk_cell BK162.out 0).trans rfl; have hcz23_1 : w22.cell? ⟨gb162, 1, none⟩ = some (.int .i64 a0_1) := (blk_cell BK162.out 1).trans rfl; have hcz23_2 : w22.cell? ⟨gb162, 2, none⟩ = some (.int .i64 a0_2) := (blk_cell BK162.out 2).trans rfl; have hcz23_3 : w22.cell? ⟨gb162, 3, none⟩ = some (.int .i64 a0_3) := (blk_cell BK162.out 3).trans rfl; have hcz23_4 : w22.cell? ⟨gb162, 4, none⟩ = some (.int .i64 a0_4) := (blk_cell BK162.out 4).trans rfl; have hfz23_0 := blk_frozen BK162.out 0; have hfz23_1 := blk_frozen BK162.out 1; have hfz23_2 := blk_frozen BK162.out 2; have hfz23_3 := blk_frozen BK162.out 3; have hfz23_4 := blk_frozen BK162.out 4)); try go_wp2_with (first | ((with_reducible refine gate_dst (N := 1) rfl ?_); refine box_event ?hg (N := 1) ?hd (cs := #[.int .i64 a0_0, .int .i64 a0_1, .int .i64 a0_2, .int .i64 a0_3, .int .i64 a0_4]) (t := 46) ?hr ?_; (case hd => rfl); (case hg => rfl); (case hr => first | (go_simp; done) | (go_simp; rfl)); intro gb162 hg w22 hbox hb; have n0_ := Aside0.mk (below_step (by repeat (first | (with_reducible first | exact HB.out | apply below_alloc | apply pw_below_drewN | apply below_drew1) | exact HB.out)) hb); have n1_ := Aside0.mk (hbox); have n2_ := Aside0.mk ((by rw [hg]; exact (below_size (by repeat (first | (with_reducible first | exact HB.out | apply below_alloc | apply pw_below_drewN | apply below_drew1) | exact HB.out))) : w.heap.size ≤ gb162)); have n3_ := Aside0.mk ((by rw [hg]; exact (below_size (by repeat (first | (with_reducible first | exact HB.out | apply below_alloc | apply pw_below_drewN | apply below_drew1) | exact HB.out))) : w.heap.size ≤ gb162)); clear HB; have HB := n0_; have BK162 := n1_; have GW162 := n2_; have GE162 := n3_; clear n0_ n1_ n2_ n3_; clear hb hbox hg; have hcz23_0 : w22.cell? ⟨gb162, 0, none⟩ = some (.int .i64 a0_0) := (blk_cell BK162.out 0).trans rfl; have hcz23_1 : w22.cell? ⟨gb162, 1, none⟩ = some (.int .i64 a0_1) := (blk_cell BK162.out 1).trans rfl; have hcz23_2 : w22.cell? ⟨gb162, 2, none⟩ = some (.int .i64 a0_2) := (blk_cell BK162.out 2).trans rfl; have hcz23_3 : w22.cell? ⟨gb162, 3, none⟩ = some (.int .i64 a0_3) := (blk_cell BK162.out 3).trans rfl; have hcz23_4 : w22.cell? ⟨gb162, 4, none⟩ = some (.int .i64 a0_4) := (blk_cell BK162.out 4).trans rfl; have hfz23_0 := blk_frozen BK162.out 0; have hfz23_1 := blk_frozen BK162.out 1; have hfz23_2 := blk_frozen BK162.out 2; have hfz23_3 := blk_frozen BK162.out 3; have hfz23_4 := blk_frozen BK162.out 4)))
           go_ret
           exact ⟨by first | rfl | (simp [errW_none, errW_some] <;> rfl) | (simp [*, errW_none, errW_some] <;> rfl), by repeat (first | (with_reducible first | exact HB.out | apply below_alloc | apply pw_below_drewN | apply below_drew1 | refine below_set ?_ GE162.out) | exact HB.out)⟩
         ·rw [if_neg c18] at H
          have c18b0 : decide (a0_0 ≤ 1099511627776) = false := decide_eq_false c18
          clear c18
          obtain rfl := Option.some.inj H
          go_enter Try.func27, Try.ntmps27
          go_wp2_with (first | ((with_reducible refine gate_dst (N := 1) rfl ?_); refine box_event ?hg (N := 1) ?hd (cs := #[.int .i64 a0_0, .int .i64 a0_1, .int .i64 a0_2, .int .i64 a0_3, .int .i64 a0_4]) (t := 46) ?hr ?_; (case hd => rfl); (case hg => rfl); (case hr => first | (go_simp; done) | (go_simp; rfl)); intro gb162 hg w24 hbox hb; have n0_ := Aside0.mk (below_step (by repeat (first | (with_reducible first | exact HB.out | apply below_alloc | apply pw_below_drewN | apply below_drew1) | exact HB.out)) hb); have n1_ := Aside0.mk (hbox); have n2_ := Aside0.mk ((by rw [hg]; exact (below_size (by repeat (first | (with_reducible first | exact HB.out | apply below_alloc | apply pw_below_drewN | apply below_drew1) | exact HB.out))) : w.heap.size ≤ gb162)); have n3_ := Aside0.mk ((by rw [hg]; exact (below_size (by repeat (first | (with_reducible first | exact HB.out | apply below_alloc | apply pw_below_drewN | apply below_drew1) | exact HB.out))) : w.heap.size ≤ gb162)); clear HB; have HB := n0_; have BK162 := n1_; have GW162 := n2_; have GE162 := n3_; clear n0_ n1_ n2_ n3_; clear hb hbox hg; have hcz25_0 : w24.cell? ⟨gb162, 0, none⟩ = some (.int .i64 a0_0) := (blk_cell BK162.out 0).trans rfl; have hcz25_1 : w24.cell? ⟨gb162, 1, none⟩ = some (.int .i64 a0_1) := (blk_cell BK162.out 1).trans rfl; have hcz25_2 : w24.cell? ⟨gb162, 2, none⟩ = some (.int .i64 a0_2) := (blk_cell BK162.out 2).trans rfl; have hcz25_3 : w24.cell? ⟨gb162, 3, none⟩ = some (.int .i64 a0_3) := (blk_cell BK162.out 3).trans rfl; have hcz25_4 : w24.cell? ⟨gb162, 4, none⟩ = some (.int .i64 a0_4) := (blk_cell BK162.out 4).trans rfl; have hfz25_0 := blk_frozen BK162.out 0; have hfz25_1 := blk_frozen BK162.out 1; have hfz25_2 := blk_frozen BK162.out 2; have hfz25_3 := blk_frozen BK162.out 3; have hfz25_4 := blk_frozen BK162.out 4))
          repeat (go_quiet (first | ((with_reducible refine gate_dst (N := 1) rfl ?_); refine box_event ?hg (N := 1) ?hd (cs := #[.int .i64 a0_0, .int .i64 a0_1, .int .i64 a0_2, .int .i64 a0_3, .int .i64 a0_4]) (t := 46) ?hr ?_; (case hd => rfl); (case hg => rfl); (case hr => first | (go_simp; done) | (go_simp; rfl)); intro gb162 hg w24 hbox hb; have n0_ := Aside0.mk (below_step (by repeat (first | (with_reducible first | exact HB.out | apply below_alloc | apply pw_below_drewN | apply below_drew1) | exact HB.out)) hb); have n1_ := Aside0.mk (hbox); have n2_ := Aside0.mk ((by rw [hg]; exact (below_size (by repeat (first | (with_reducible first | exact HB.out | apply below_alloc | apply pw_below_drewN | apply below_drew1) | exact HB.out))) : w.heap.size ≤ gb162)); have n3_ := Aside0.mk ((by rw [hg]; exact (below_size (by repeat (first | (with_reducible first | exact HB.out | apply below_alloc | apply pw_below_drewN | apply below_drew1) | exact HB.out))) : w.heap.size ≤ gb162)); clear HB; have HB := n0_; have BK162 := n1_; have GW162 := n2_; have GE162 := n3_; clear n0_ n1_ n2_ n3_; clear hb hbox hg; have hcz25_0 : w24.cell? ⟨gb162, 0, none⟩ = some (.int .i64 a0_0) := (blk_cell BK162.out 0).trans rfl; have hcz25_1 : w24.cell? ⟨gb162, 1, none⟩ = some (.int .i64 a0_1) := (blk_cell BK162.out 1).trans rfl; have hcz25_2 : w24.cell? ⟨gb162, 2, none⟩ = some (.int .i64 a0_2) := (blk_cell BK162.out 2).trans rfl; have hcz25_3 : w24.cell? ⟨gb162, 3, none⟩ = some (.int .i64 a0_3) := (blk_cell BK162.out 3).trans rfl; have hcz25_4 : w24.cell? ⟨gb162, 4, none⟩ = some (.int .i64 a0_4) := (blk_cell BK162.out 4).trans rfl; have hfz25_0 := blk_frozen BK162.out 0; have hfz25_1 := blk_frozen BK162.out 1; have hfz25_2 := blk_frozen BK162.out 2; have hfz25_3 := blk_frozen BK162.out 3; have hfz25_4 := blk_frozen BK162.out 4)); try go_wp2_with (first | ((with_reducible refine gate_dst (N := 1) rfl ?_); refine box_event ?hg (N := 1) ?hd (cs := #[.int .i64 a0_0, .int .i64 a0_1, .int .i64 a0_2, .int .i64 a0_3, .int .i64 a0_4]) (t := 46) ?hr ?_; (case hd => rfl); (case hg => rfl); (case hr => first | (go_simp; done) | (go_simp; rfl)); intro gb162 hg w24 hbox hb; have n0_ := Aside0.mk (below_step (by repeat (first | (with_reducible first | exact HB.out | apply below_alloc | apply pw_below_drewN | apply below_drew1) | exact HB.out)) hb); have n1_ := Aside0.mk (hbox); have n2_ := Aside0.mk ((by rw [hg]; exact (below_size (by repeat (first | (with_reducible first | exact HB.out | apply below_alloc | apply pw_below_drewN | apply below_drew1) | exact HB.out))) : w.heap.size ≤ gb162)); have n3_ := Aside0.mk ((by rw [hg]; exact (below_size (by repeat (first | (with_reducible first | exact HB.out | apply below_alloc | apply pw_below_drewN | apply below_drew1) | exact HB.out))) : w.heap.size ≤ gb162)); clear HB; have HB := n0_; have BK162 := n1_; have GW162 := n2_; have GE162 := n3_; clear n0_ n1_ n2_ n3_; clear hb hbox hg; have hcz25_0 : w24.cell? ⟨gb162, 0, none⟩ = some (.int .i64 a0_0) := (blk_cell BK162.out 0).trans rfl; have hcz25_1 : w24.cell? ⟨gb162, 1, none⟩ = some (.int .i64 a0_1) := (blk_cell BK162.out 1).trans rfl; have hcz25_2 : w24.cell? ⟨gb162, 2, none⟩ = some (.int .i64 a0_2) := (blk_cell BK162.out 2).trans rfl; have hcz25_3 : w24.cell? ⟨gb162, 3, none⟩ = some (.int .i64 a0_3) := (blk_cell BK162.out 3).trans rfl; have hcz25_4 : w24.cell? ⟨gb162, 4, none⟩ = some (.int .i64 a0_4) := (blk_cell BK162.out 4).trans rfl; have hfz25_0 := blk_frozen BK162.out 0; have hfz25_1 := blk_frozen BK162.out 1; have hfz25_2 := blk_frozen BK162.out 2; have hfz25_3 := blk_frozen BK162.out 3; have hfz25_4 := blk_frozen BK162.out 4)))
          go_ret
          exact ⟨by first | rfl | (simp [errW_none, errW_some] <;> rfl) | (simp [*, errW_none, errW_some] <;> rfl), by repeat (first | (with_reducible first | exact HB.out | apply below_alloc | apply pw_below_drewN | apply below_drew1 | refine below_set ?_ GE162.out) | exact HB.out)⟩
        ·rw [if_neg c17] at H
         have c17b0 : decide ((-1099511627776) ≤ a0_0) = false := decide_eq_false c17
         clear c17
         obtain rfl := Option.some.inj H
         go_enter Try.func27, Try.ntmps27
         go_wp2_with (first | ((with_reducible refine gate_dst (N := 1) rfl ?_); refine box_event ?hg (N := 1) ?hd (cs := #[.int .i64 a0_0, .int .i64 a0_1, .int .i64 a0_2, .int .i64 a0_3, .int .i64 a0_4]) (t := 46) ?hr ?_; (case hd => rfl); (case hg => rfl); (case hr => first | (go_simp; done) | (go_simp; rfl)); intro gb162 hg w26 hbox hb; have n0_ := Aside0.mk (below_step (by repeat (first | (with_reducible first | exact HB.out | apply below_alloc | apply pw_below_drewN | apply below_drew1) | exact HB.out)) hb); have n1_ := Aside0.mk (hbox); have n2_ := Aside0.mk ((by rw [hg]; exact (below_size (by repeat (first | (with_reducible first | exact HB.out | apply below_alloc | apply pw_below_drewN | apply below_drew1) | exact HB.out))) : w.heap.size ≤ gb162)); have n3_ := Aside0.mk ((by rw [hg]; exact (below_size (by repeat (first | (with_reducible first | exact HB.out | apply below_alloc | apply pw_below_drewN | apply below_drew1) | exact HB.out))) : w.heap.size ≤ gb162)); clear HB; have HB := n0_; have BK162 := n1_; have GW162 := n2_; have GE162 := n3_; clear n0_ n1_ n2_ n3_; clear hb hbox hg; have hcz27_0 : w26.cell? ⟨gb162, 0, none⟩ = some (.int .i64 a0_0) := (blk_cell BK162.out 0).trans rfl; have hcz27_1 : w26.cell? ⟨gb162, 1, none⟩ = some (.int .i64 a0_1) := (blk_cell BK162.out 1).trans rfl; have hcz27_2 : w26.cell? ⟨gb162, 2, none⟩ = some (.int .i64 a0_2) := (blk_cell BK162.out 2).trans rfl; have hcz27_3 : w26.cell? ⟨gb162, 3, none⟩ = some (.int .i64 a0_3) := (blk_cell BK162.out 3).trans rfl; have hcz27_4 : w26.cell? ⟨gb162, 4, none⟩ = some (.int .i64 a0_4) := (blk_cell BK162.out 4).trans rfl; have hfz27_0 := blk_frozen BK162.out 0; have hfz27_1 := blk_frozen BK162.out 1; have hfz27_2 := blk_frozen BK162.out 2; have hfz27_3 := blk_frozen BK162.out 3; have hfz27_4 := blk_frozen BK162.out 4))
         repeat (go_quiet (first | ((with_reducible refine gate_dst (N := 1) rfl ?_); refine box_event ?hg (N := 1) ?hd (cs := #[.int .i64 a0_0, .int .i64 a0_1, .int .i64 a0_2, .int .i64 a0_3, .int .i64 a0_4]) (t := 46) ?hr ?_; (case hd => rfl); (case hg => rfl); (case hr => first | (go_simp; done) | (go_simp; rfl)); intro gb162 hg w26 hbox hb; have n0_ := Aside0.mk (below_step (by repeat (first | (with_reducible first | exact HB.out | apply below_alloc | apply pw_below_drewN | apply below_drew1) | exact HB.out)) hb); have n1_ := Aside0.mk (hbox); have n2_ := Aside0.mk ((by rw [hg]; exact (below_size (by repeat (first | (with_reducible first | exact HB.out | apply below_alloc | apply pw_below_drewN | apply below_drew1) | exact HB.out))) : w.heap.size ≤ gb162)); have n3_ := Aside0.mk ((by rw [hg]; exact (below_size (by repeat (first | (with_reducible first | exact HB.out | apply below_alloc | apply pw_below_drewN | apply below_drew1) | exact HB.out))) : w.heap.size ≤ gb162)); clear HB; have HB := n0_; have BK162 := n1_; have GW162 := n2_; have GE162 := n3_; clear n0_ n1_ n2_ n3_; clear hb hbox hg; have hcz27_0 : w26.cell? ⟨gb162, 0, none⟩ = some (.int .i64 a0_0) := (blk_cell BK162.out 0).trans rfl; have hcz27_1 : w26.cell? ⟨gb162, 1, none⟩ = some (.int .i64 a0_1) := (blk_cell BK162.out 1).trans rfl; have hcz27_2 : w26.cell? ⟨gb162, 2, none⟩ = some (.int .i64 a0_2) := (blk_cell BK162.out 2).trans rfl; have hcz27_3 : w26.cell? ⟨gb162, 3, none⟩ = some (.int .i64 a0_3) := (blk_cell BK162.out 3).trans rfl; have hcz27_4 : w26.cell? ⟨gb162, 4, none⟩ = some (.int .i64 a0_4) := (blk_cell BK162.out 4).trans rfl; have hfz27_0 := blk_frozen BK162.out 0; have hfz27_1 := blk_frozen BK162.out 1; have hfz27_2 := blk_frozen BK162.out 2; have hfz27_3 := blk_frozen BK162.out 3; have hfz27_4 := blk_frozen BK162.out 4)); try go_wp2_with (first | ((with_reducible refine gate_dst (N := 1) rfl ?_); refine box_event ?hg (N := 1) ?hd (cs := #[.int .i64 a0_0, .int .i64 a0_1, .int .i64 a0_2, .int .i64 a0_3, .int .i64 a0_4]) (t := 46) ?hr ?_; (case hd => rfl); (case hg => rfl); (case hr => first | (go_simp; done) | (go_simp; rfl)); intro gb162 hg w26 hbox hb; have n0_ := Aside0.mk (below_step (by repeat (first | (with_reducible first | exact HB.out | apply below_alloc | apply pw_below_drewN | apply below_drew1) | exact HB.out)) hb); have n1_ := Aside0.mk (hbox); have n2_ := Aside0.mk ((by rw [hg]; exact (below_size (by repeat (first | (with_reducible first | exact HB.out | apply below_alloc | apply pw_below_drewN | apply below_drew1) | exact HB.out))) : w.heap.size ≤ gb162)); have n3_ := Aside0.mk ((by rw [hg]; exact (below_size (by repeat (first | (with_reducible first | exact HB.out | apply below_alloc | apply pw_below_drewN | apply below_drew1) | exact HB.out))) : w.heap.size ≤ gb162)); clear HB; have HB := n0_; have BK162 := n1_; have GW162 := n2_; have GE162 := n3_; clear n0_ n1_ n2_ n3_; clear hb hbox hg; have hcz27_0 : w26.cell? ⟨gb162, 0, none⟩ = some (.int .i64 a0_0) := (blk_cell BK162.out 0).trans rfl; have hcz27_1 : w26.cell? ⟨gb162, 1, none⟩ = some (.int .i64 a0_1) := (blk_cell BK162.out 1).trans rfl; have hcz27_2 : w26.cell? ⟨gb162, 2, none⟩ = some (.int .i64 a0_2) := (blk_cell BK162.out 2).trans rfl; have hcz27_3 : w26.cell? ⟨gb162, 3, none⟩ = some (.int .i64 a0_3) := (blk_cell BK162.out 3).trans rfl; have hcz27_4 : w26.cell? ⟨gb162, 4, none⟩ = some (.int .i64 a0_4) := (blk_cell BK162.out 4).trans rfl; have hfz27_0 := blk_frozen BK162.out 0; have hfz27_1 := blk_frozen BK162.out 1; have hfz27_2 := blk_frozen BK162.out 2; have hfz27_3 := blk_frozen BK162.out 3; have hfz27_4 := blk_frozen BK162.out 4)))
         go_ret
         exact ⟨by first | rfl | (simp [errW_none, errW_some] <;> rfl) | (simp [*, errW_none, errW_some] <;> rfl), by repeat (first | (with_reducible first | exact HB.out | apply below_alloc | apply pw_below_drewN | apply below_drew1 | refine below_set ?_ GE162.out) | exact HB.out)⟩
       ·rw [if_neg c16] at H
        have c16b0 : decide (a0_2 ≤ 1099511627776) = false := decide_eq_false c16
        clear c16
        obtain rfl := Option.some.inj H
        go_enter Try.func27, Try.ntmps27
        go_wp2_with (first | ((with_reducible refine gate_dst (N := 1) rfl ?_); refine box_event ?hg (N := 1) ?hd (cs := #[.int .i64 a0_0, .int .i64 a0_1, .int .i64 a0_2, .int .i64 a0_3, .int .i64 a0_4]) (t := 46) ?hr ?_; (case hd => rfl); (case hg => rfl); (case hr => first | (go_simp; done) | (go_simp; rfl)); intro gb162 hg w28 hbox hb; have n0_ := Aside0.mk (below_step (by repeat (first | (with_reducible first | exact HB.out | apply below_alloc | apply pw_below_drewN | apply below_drew1) | exact HB.out)) hb); have n1_ := Aside0.mk (hbox); have n2_ := Aside0.mk ((by rw [hg]; exact (below_size (by repeat (first | (with_reducible first | exact HB.out | apply below_alloc | apply pw_below_drewN | apply below_drew1) | exact HB.out))) : w.heap.size ≤ gb162)); have n3_ := Aside0.mk ((by rw [hg]; exact (below_size (by repeat (first | (with_reducible first | exact HB.out | apply below_alloc | apply pw_below_drewN | apply below_drew1) | exact HB.out))) : w.heap.size ≤ gb162)); clear HB; have HB := n0_; have BK162 := n1_; have GW162 := n2_; have GE162 := n3_; clear n0_ n1_ n2_ n3_; clear hb hbox hg; have hcz29_0 : w28.cell? ⟨gb162, 0, none⟩ = some (.int .i64 a0_0) := (blk_cell BK162.out 0).trans rfl; have hcz29_1 : w28.cell? ⟨gb162, 1, none⟩ = some (.int .i64 a0_1) := (blk_cell BK162.out 1).trans rfl; have hcz29_2 : w28.cell? ⟨gb162, 2, none⟩ = some (.int .i64 a0_2) := (blk_cell BK162.out 2).trans rfl; have hcz29_3 : w28.cell? ⟨gb162, 3, none⟩ = some (.int .i64 a0_3) := (blk_cell BK162.out 3).trans rfl; have hcz29_4 : w28.cell? ⟨gb162, 4, none⟩ = some (.int .i64 a0_4) := (blk_cell BK162.out 4).trans rfl; have hfz29_0 := blk_frozen BK162.out 0; have hfz29_1 := blk_frozen BK162.out 1; have hfz29_2 := blk_frozen BK162.out 2; have hfz29_3 := blk_frozen BK162.out 3; have hfz29_4 := blk_frozen BK162.out 4))
        repeat (go_quiet (first | ((with_reducible refine gate_dst (N := 1) rfl ?_); refine box_event ?hg (N := 1) ?hd (cs := #[.int .i64 a0_0, .int .i64 a0_1, .int .i64 a0_2, .int .i64 a0_3, .int .i64 a0_4]) (t := 46) ?hr ?_; (case hd => rfl); (case hg => rfl); (case hr => first | (go_simp; done) | (go_simp; rfl)); intro gb162 hg w28 hbox hb; have n0_ := Aside0.mk (below_step (by repeat (first | (with_reducible first | exact HB.out | apply below_alloc | apply pw_below_drewN | apply below_drew1) | exact HB.out)) hb); have n1_ := Aside0.mk (hbox); have n2_ := Aside0.mk ((by rw [hg]; exact (below_size (by repeat (first | (with_reducible first | exact HB.out | apply below_alloc | apply pw_below_drewN | apply below_drew1) | exact HB.out))) : w.heap.size ≤ gb162)); have n3_ := Aside0.mk ((by rw [hg]; exact (below_size (by repeat (first | (with_reducible first | exact HB.out | apply below_alloc | apply pw_below_drewN | apply below_drew1) | exact HB.out))) : w.heap.size ≤ gb162)); clear HB; have HB := n0_; have BK162 := n1_; have GW162 := n2_; have GE162 := n3_; clear n0_ n1_ n2_ n3_; clear hb hbox hg; have hcz29_0 : w28.cell? ⟨gb162, 0, none⟩ = some (.int .i64 a0_0) := (blk_cell BK162.out 0).trans rfl; have hcz29_1 : w28.cell? ⟨gb162, 1, none⟩ = some (.int .i64 a0_1) := (blk_cell BK162.out 1).trans rfl; have hcz29_2 : w28.cell? ⟨gb162, 2, none⟩ = some (.int .i64 a0_2) := (blk_cell BK162.out 2).trans rfl; have hcz29_3 : w28.cell? ⟨gb162, 3, none⟩ = some (.int .i64 a0_3) := (blk_cell BK162.out 3).trans rfl; have hcz29_4 : w28.cell? ⟨gb162, 4, none⟩ = some (.int .i64 a0_4) := (blk_cell BK162.out 4).trans rfl; have hfz29_0 := blk_frozen BK162.out 0; have hfz29_1 := blk_frozen BK162.out 1; have hfz29_2 := blk_frozen BK162.out 2; have hfz29_3 := blk_frozen BK162.out 3; have hfz29_4 := blk_frozen BK162.out 4)); try go_wp2_with (first | ((with_reducible refine gate_dst (N := 1) rfl ?_); refine box_event ?hg (N := 1) ?hd (cs := #[.int .i64 a0_0, .int .i64 a0_1, .int .i64 a0_2, .int .i64 a0_3, .int .i64 a0_4]) (t := 46) ?hr ?_; (case hd => rfl); (case hg => rfl); (case hr => first | (go_simp; done) | (go_simp; rfl)); intro gb162 hg w28 hbox hb; have n0_ := Aside0.mk (below_step (by repeat (first | (with_reducible first | exact HB.out | apply below_alloc | apply pw_below_drewN | apply below_drew1) | exact HB.out)) hb); have n1_ := Aside0.mk (hbox); have n2_ := Aside0.mk ((by rw [hg]; exact (below_size (by repeat (first | (with_reducible first | exact HB.out | apply below_alloc | apply pw_below_drewN | apply below_drew1) | exact HB.out))) : w.heap.size ≤ gb162)); have n3_ := Aside0.mk ((by rw [hg]; exact (below_size (by repeat (first | (with_reducible first | exact HB.out | apply below_alloc | apply pw_below_drewN | apply below_drew1) | exact HB.out))) : w.heap.size ≤ gb162)); clear HB; have HB := n0_; have BK162 := n1_; have GW162 := n2_; have GE162 := n3_; clear n0_ n1_ n2_ n3_; clear hb hbox hg; have hcz29_0 : w28.cell? ⟨gb162, 0, none⟩ = some (.int .i64 a0_0) := (blk_cell BK162.out 0).trans rfl; have hcz29_1 : w28.cell? ⟨gb162, 1, none⟩ = some (.int .i64 a0_1) := (blk_cell BK162.out 1).trans rfl; have hcz29_2 : w28.cell? ⟨gb162, 2, none⟩ = some (.int .i64 a0_2) := (blk_cell BK162.out 2).trans rfl; have hcz29_3 : w28.cell? ⟨gb162, 3, none⟩ = some (.int .i64 a0_3) := (blk_cell BK162.out 3).trans rfl; have hcz29_4 : w28.cell? ⟨gb162, 4, none⟩ = some (.int .i64 a0_4) := (blk_cell BK162.out 4).trans rfl; have hfz29_0 := blk_frozen BK162.out 0; have hfz29_1 := blk_frozen BK162.out 1; have hfz29_2 := blk_frozen BK162.out 2; have hfz29_3 := blk_frozen BK162.out 3; have hfz29_4 := blk_frozen BK162.out 4)))
        go_ret
        exact ⟨by first | rfl | (simp [errW_none, errW_some] <;> rfl) | (simp [*, errW_none, errW_some] <;> rfl), by repeat (first | (with_reducible first | exact HB.out | apply below_alloc | apply pw_below_drewN | apply below_drew1 | refine below_set ?_ GE162.out) | exact HB.out)⟩
      ·rw [if_neg c15] at H
       have c15b0 : decide (1 ≤ a0_2) = false := decide_eq_false c15
       clear c15
       obtain rfl := Option.some.inj H
       go_enter Try.func27, Try.ntmps27
       go_wp2_with (first | ((with_reducible refine gate_dst (N := 1) rfl ?_); refine box_event ?hg (N := 1) ?hd (cs := #[.int .i64 a0_0, .int .i64 a0_1, .int .i64 a0_2, .int .i64 a0_3, .int .i64 a0_4]) (t := 46) ?hr ?_; (case hd => rfl); (case hg => rfl); (case hr => first | (go_simp; done) | (go_simp; rfl)); intro gb162 hg w30 hbox hb; have n0_ := Aside0.mk (below_step (by repeat (first | (with_reducible first | exact HB.out | apply below_alloc | apply pw_below_drewN | apply below_drew1) | exact HB.out)) hb); have n1_ := Aside0.mk (hbox); have n2_ := Aside0.mk ((by rw [hg]; exact (below_size (by repeat (first | (with_reducible first | exact HB.out | apply below_alloc | apply pw_below_drewN | apply below_drew1) | exact HB.out))) : w.heap.size ≤ gb162)); have n3_ := Aside0.mk ((by rw [hg]; exact (below_size (by repeat (first | (with_reducible first | exact HB.out | apply below_alloc | apply pw_below_drewN | apply below_drew1) | exact HB.out))) : w.heap.size ≤ gb162)); clear HB; have HB := n0_; have BK162 := n1_; have GW162 := n2_; have GE162 := n3_; clear n0_ n1_ n2_ n3_; clear hb hbox hg; have hcz31_0 : w30.cell? ⟨gb162, 0, none⟩ = some (.int .i64 a0_0) := (blk_cell BK162.out 0).trans rfl; have hcz31_1 : w30.cell? ⟨gb162, 1, none⟩ = some (.int .i64 a0_1) := (blk_cell BK162.out 1).trans rfl; have hcz31_2 : w30.cell? ⟨gb162, 2, none⟩ = some (.int .i64 a0_2) := (blk_cell BK162.out 2).trans rfl; have hcz31_3 : w30.cell? ⟨gb162, 3, none⟩ = some (.int .i64 a0_3) := (blk_cell BK162.out 3).trans rfl; have hcz31_4 : w30.cell? ⟨gb162, 4, none⟩ = some (.int .i64 a0_4) := (blk_cell BK162.out 4).trans rfl; have hfz31_0 := blk_frozen BK162.out 0; have hfz31_1 := blk_frozen BK162.out 1; have hfz31_2 := blk_frozen BK162.out 2; have hfz31_3 := blk_frozen BK162.out 3; have hfz31_4 := blk_frozen BK162.out 4))
       repeat (go_quiet (first | ((with_reducible refine gate_dst (N := 1) rfl ?_); refine box_event ?hg (N := 1) ?hd (cs := #[.int .i64 a0_0, .int .i64 a0_1, .int .i64 a0_2, .int .i64 a0_3, .int .i64 a0_4]) (t := 46) ?hr ?_; (case hd => rfl); (case hg => rfl); (case hr => first | (go_simp; done) | (go_simp; rfl)); intro gb162 hg w30 hbox hb; have n0_ := Aside0.mk (below_step (by repeat (first | (with_reducible first | exact HB.out | apply below_alloc | apply pw_below_drewN | apply below_drew1) | exact HB.out)) hb); have n1_ := Aside0.mk (hbox); have n2_ := Aside0.mk ((by rw [hg]; exact (below_size (by repeat (first | (with_reducible first | exact HB.out | apply below_alloc | apply pw_below_drewN | apply below_drew1) | exact HB.out))) : w.heap.size ≤ gb162)); have n3_ := Aside0.mk ((by rw [hg]; exact (below_size (by repeat (first | (with_reducible first | exact HB.out | apply below_alloc | apply pw_below_drewN | apply below_drew1) | exact HB.out))) : w.heap.size ≤ gb162)); clear HB; have HB := n0_; have BK162 := n1_; have GW162 := n2_; have GE162 := n3_; clear n0_ n1_ n2_ n3_; clear hb hbox hg; have hcz31_0 : w30.cell? ⟨gb162, 0, none⟩ = some (.int .i64 a0_0) := (blk_cell BK162.out 0).trans rfl; have hcz31_1 : w30.cell? ⟨gb162, 1, none⟩ = some (.int .i64 a0_1) := (blk_cell BK162.out 1).trans rfl; have hcz31_2 : w30.cell? ⟨gb162, 2, none⟩ = some (.int .i64 a0_2) := (blk_cell BK162.out 2).trans rfl; have hcz31_3 : w30.cell? ⟨gb162, 3, none⟩ = some (.int .i64 a0_3) := (blk_cell BK162.out 3).trans rfl; have hcz31_4 : w30.cell? ⟨gb162, 4, none⟩ = some (.int .i64 a0_4) := (blk_cell BK162.out 4).trans rfl; have hfz31_0 := blk_frozen BK162.out 0; have hfz31_1 := blk_frozen BK162.out 1; have hfz31_2 := blk_frozen BK162.out 2; have hfz31_3 := blk_frozen BK162.out 3; have hfz31_4 := blk_frozen BK162.out 4)); try go_wp2_with (first | ((with_reducible refine gate_dst (N := 1) rfl ?_); refine box_event ?hg (N := 1) ?hd (cs := #[.int .i64 a0_0, .int .i64 a0_1, .int .i64 a0_2, .int .i64 a0_3, .int .i64 a0_4]) (t := 46) ?hr ?_; (case hd => rfl); (case hg => rfl); (case hr => first | (go_simp; done) | (go_simp; rfl)); intro gb162 hg w30 hbox hb; have n0_ := Aside0.mk (below_step (by repeat (first | (with_reducible first | exact HB.out | apply below_alloc | apply pw_below_drewN | apply below_drew1) | exact HB.out)) hb); have n1_ := Aside0.mk (hbox); have n2_ := Aside0.mk ((by rw [hg]; exact (below_size (by repeat (first | (with_reducible first | exact HB.out | apply below_alloc | apply pw_below_drewN | apply below_drew1) | exact HB.out))) : w.heap.size ≤ gb162)); have n3_ := Aside0.mk ((by rw [hg]; exact (below_size (by repeat (first | (with_reducible first | exact HB.out | apply below_alloc | apply pw_below_drewN | apply below_drew1) | exact HB.out))) : w.heap.size ≤ gb162)); clear HB; have HB := n0_; have BK162 := n1_; have GW162 := n2_; have GE162 := n3_; clear n0_ n1_ n2_ n3_; clear hb hbox hg; have hcz31_0 : w30.cell? ⟨gb162, 0, none⟩ = some (.int .i64 a0_0) := (blk_cell BK162.out 0).trans rfl; have hcz31_1 : w30.cell? ⟨gb162, 1, none⟩ = some (.int .i64 a0_1) := (blk_cell BK162.out 1).trans rfl; have hcz31_2 : w30.cell? ⟨gb162, 2, none⟩ = some (.int .i64 a0_2) := (blk_cell BK162.out 2).trans rfl; have hcz31_3 : w30.cell? ⟨gb162, 3, none⟩ = some (.int .i64 a0_3) := (blk_cell BK162.out 3).trans rfl; have hcz31_4 : w30.cell? ⟨gb162, 4, none⟩ = some (.int .i64 a0_4) := (blk_cell BK162.out 4).trans rfl; have hfz31_0 := blk_frozen BK162.out 0; have hfz31_1 := blk_frozen BK162.out 1; have hfz31_2 := blk_frozen BK162.out 2; have hfz31_3 := blk_frozen BK162.out 3; have hfz31_4 := blk_frozen BK162.out 4)))
       go_ret
       exact ⟨by first | rfl | (simp [errW_none, errW_some] <;> rfl) | (simp [*, errW_none, errW_some] <;> rfl), by repeat (first | (with_reducible first | exact HB.out | apply below_alloc | apply pw_below_drewN | apply below_drew1 | refine below_set ?_ GE162.out) | exact HB.out)⟩

end Go.Proofs.Ytppklhfiajjhmaa.PRasterShifts
