-- written by a program of this session (a turned copy of the print)
import Derived.Test.YtppklhfiajjhmaaPRasterDrawsx0
import Derived.Test.YtppklhfiajjhmaaPRasterDrawsx3
import Derived.Test.YtppklhfiajjhmaaPRasterDrawsx4
namespace Go.Proofs.Ytppklhfiajjhmaa.PRasterDraws
open Go.RowKit Go.Proofs.YtppklhfiajjhmaaW.PrintWords Go.Proofs.YtppklhfiajjhmaaW.PrintLast Go.Proofs.YtppklhfiajjhmaaW.PrintMore
attribute [local go_sem] max2_int min2_int max_two min_two max_three min_three max_four min_four   -- for this text's walks alone
set_option linter.unusedVariables false
set_option linter.unusedSimpArgs false

/-! ### decoupagelaw28_RasterDraws: function 7 -/
mutual
def decoupagelaw28_RasterDraws.j0 : Nat → List (S39) → Bool → Int → Int → Int → Int → Int → Option (Bool)
  | 0, _, _, _, _, _, _, _ => none
  | k + 1, x0, x17, x180000, x180001, x180002, x180003, x180004 => if x17 = true then ((decoupagelaw28_awake.f k).bind fun t181 => (some t181)) else ((decoupageref28_Right.f x180000 x180001 x180002 x180003 x180004).bind fun t182 => (if t182 = true then (if (wrap64 (x180003 * x180004)) > 400 then (some true) else ((raster_Draw.f k x0 x180000 x180001 x180002 x180003 x180004).bind fun bt187 => ((decoupageref28_Draw.f k x0 x180000 x180001 x180002 x180003 x180004).bind fun t191 => (if bt187.2 = 0 then (decoupagelaw28_RasterDraws.j1 k bt187.1 t191 ((bt187.1.length : Int) != (t191.length : Int))) else (decoupagelaw28_RasterDraws.j1 k bt187.1 t191 true))))) else ((raster_Draw.f k x0 x180000 x180001 x180002 x180003 x180004).bind fun bt183 => (if bt183.2 = 1 then (some ((bt183.1.length : Int) == 0)) else (some false)))))
def decoupagelaw28_RasterDraws.j1 : Nat → List Int → List Int → Bool → Option (Bool)
  | 0, _, _, _ => none
  | k + 1, x7, x9, x58 => if x58 = true then (some false) else (decoupagelaw28_RasterDraws.l0 k x7 x9 (x7.length : Int) 0)
def decoupagelaw28_RasterDraws.l0 : Nat → List Int → List Int → Int → Int → Option (Bool)
  | 0, _, _, _, _ => none
  | k + 1, x7, x9, x60, x61 => if x61 < x60 then (if 0 ≤ x61 then (if x61 < (x7.length : Int) then (if x61 < (x9.length : Int) then (if (rd x7 x61) = (rd x9 x61) then (decoupagelaw28_RasterDraws.l0 k x7 x9 x60 (wrap64 (x61 + 1))) else (some false)) else (none)) else (none)) else (none)) else (some true)
end
def decoupagelaw28_RasterDraws.f (k : Nat) (l0 : List (S39)) (a1_0 : Int) (a1_1 : Int) (a1_2 : Int) (a1_3 : Int) (a1_4 : Int) : Option (Bool) := (decoupagelaw28_awake.f k).bind fun t180 => (if t180 = true then (decoupagelaw28_RasterDraws.j0 k l0 (decide ((l0.length : Int) > 30)) a1_0 a1_1 a1_2 a1_3 a1_4) else (decoupagelaw28_RasterDraws.j0 k l0 true a1_0 a1_1 a1_2 a1_3 a1_4))
theorem decoupagelaw28_RasterDraws.mono_l : ∀ k, (∀ y0 y1 y2 y3 y4 y5 y6, LeO (decoupagelaw28_RasterDraws.j0 k y0 y1 y2 y3 y4 y5 y6) (decoupagelaw28_RasterDraws.j0 (k + 1) y0 y1 y2 y3 y4 y5 y6)) ∧ (∀ y0 y1 y2, LeO (decoupagelaw28_RasterDraws.j1 k y0 y1 y2) (decoupagelaw28_RasterDraws.j1 (k + 1) y0 y1 y2)) ∧ (∀ y0 y1 y2 y3, LeO (decoupagelaw28_RasterDraws.l0 k y0 y1 y2 y3) (decoupagelaw28_RasterDraws.l0 (k + 1) y0 y1 y2 y3))
  | 0 => ⟨fun _ _ _ _ _ _ _ r h => by simp [decoupagelaw28_RasterDraws.j0] at h, fun _ _ _ r h => by simp [decoupagelaw28_RasterDraws.j1] at h, fun _ _ _ _ r h => by simp [decoupagelaw28_RasterDraws.l0] at h⟩
  | k + 1 => by
    obtain ⟨ih0, ih1, ih2⟩ := decoupagelaw28_RasterDraws.mono_l k
    refine ⟨?_, ?_, ?_⟩
    · intro y0 y1 y2 y3 y4 y5 y6
      unfold decoupagelaw28_RasterDraws.j0
      repeat' first
      | (with_reducible exact ih0 _ _ _ _ _ _ _)
      | (with_reducible exact ih1 _ _ _)
      | (with_reducible exact ih2 _ _ _ _)
      | (with_reducible exact decoupagelaw28_awake.mono _)
      | (with_reducible exact decoupageref28_Draw.mono _ _ _ _ _ _ _)
      | (with_reducible exact raster_Draw.mono _ _ _ _ _ _ _)
      | (with_reducible exact LeO.refl _)
      | (with_reducible exact LeO.none _)
      | (with_reducible refine LeO.ite ?_ ?_)
      | (with_reducible refine LeO.bind ?_ (fun _ => ?_))
      | exact ih0 _ _ _ _ _ _ _
      | exact ih1 _ _ _
      | exact ih2 _ _ _ _
      | exact decoupagelaw28_awake.mono _
      | exact decoupageref28_Draw.mono _ _ _ _ _ _ _
      | exact raster_Draw.mono _ _ _ _ _ _ _
      | exact LeO.none _
      | refine LeO.ite ?_ ?_
      | refine LeO.bind ?_ (fun _ => ?_)
    · intro y0 y1 y2
      unfold decoupagelaw28_RasterDraws.j1
      repeat' first
      | (with_reducible exact ih0 _ _ _ _ _ _ _)
      | (with_reducible exact ih1 _ _ _)
      | (with_reducible exact ih2 _ _ _ _)
      | (with_reducible exact decoupagelaw28_awake.mono _)
      | (with_reducible exact decoupageref28_Draw.mono _ _ _ _ _ _ _)
      | (with_reducible exact raster_Draw.mono _ _ _ _ _ _ _)
      | (with_reducible exact LeO.refl _)
      | (with_reducible exact LeO.none _)
      | (with_reducible refine LeO.ite ?_ ?_)
      | (with_reducible refine LeO.bind ?_ (fun _ => ?_))
      | exact ih0 _ _ _ _ _ _ _
      | exact ih1 _ _ _
      | exact ih2 _ _ _ _
      | exact decoupagelaw28_awake.mono _
      | exact decoupageref28_Draw.mono _ _ _ _ _ _ _
      | exact raster_Draw.mono _ _ _ _ _ _ _
      | exact LeO.none _
      | refine LeO.ite ?_ ?_
      | refine LeO.bind ?_ (fun _ => ?_)
    · intro y0 y1 y2 y3
      unfold decoupagelaw28_RasterDraws.l0
      repeat' first
      | (with_reducible exact ih0 _ _ _ _ _ _ _)
      | (with_reducible exact ih1 _ _ _)
      | (with_reducible exact ih2 _ _ _ _)
      | (with_reducible exact decoupagelaw28_awake.mono _)
      | (with_reducible exact decoupageref28_Draw.mono _ _ _ _ _ _ _)
      | (with_reducible exact raster_Draw.mono _ _ _ _ _ _ _)
      | (with_reducible exact LeO.refl _)
      | (with_reducible exact LeO.none _)
      | (with_reducible refine LeO.ite ?_ ?_)
      | (with_reducible refine LeO.bind ?_ (fun _ => ?_))
      | exact ih0 _ _ _ _ _ _ _
      | exact ih1 _ _ _
      | exact ih2 _ _ _ _
      | exact decoupagelaw28_awake.mono _
      | exact decoupageref28_Draw.mono _ _ _ _ _ _ _
      | exact raster_Draw.mono _ _ _ _ _ _ _
      | exact LeO.none _
      | refine LeO.ite ?_ ?_
      | refine LeO.bind ?_ (fun _ => ?_)
theorem decoupagelaw28_RasterDraws.mono : ∀ a0 a1 a2 a3 a4 a5 k, LeO (decoupagelaw28_RasterDraws.f k a0 a1 a2 a3 a4 a5) (decoupagelaw28_RasterDraws.f (k + 1) a0 a1 a2 a3 a4 a5) := by
  intro a0 a1 a2 a3 a4 a5 k
  obtain ⟨ih0, ih1, ih2⟩ := decoupagelaw28_RasterDraws.mono_l k
  unfold decoupagelaw28_RasterDraws.f
  repeat' first
      | (with_reducible exact ih0 _ _ _ _ _ _ _)
      | (with_reducible exact ih1 _ _ _)
      | (with_reducible exact ih2 _ _ _ _)
      | (with_reducible exact decoupagelaw28_awake.mono _)
      | (with_reducible exact decoupageref28_Draw.mono _ _ _ _ _ _ _)
      | (with_reducible exact raster_Draw.mono _ _ _ _ _ _ _)
      | (with_reducible exact LeO.refl _)
      | (with_reducible exact LeO.none _)
      | (with_reducible refine LeO.ite ?_ ?_)
      | (with_reducible refine LeO.bind ?_ (fun _ => ?_))
      | exact ih0 _ _ _ _ _ _ _
      | exact ih1 _ _ _
      | exact ih2 _ _ _ _
      | exact decoupagelaw28_awake.mono _
      | exact decoupageref28_Draw.mono _ _ _ _ _ _ _
      | exact raster_Draw.mono _ _ _ _ _ _ _
      | exact LeO.none _
      | refine LeO.ite ?_ ?_
      | refine LeO.bind ?_ (fun _ => ?_)
set_option maxHeartbeats 8000000 in
set_option maxRecDepth 100000 in
theorem decoupagelaw28_RasterDraws.calls (k : Nat) (A0 : Option Addr) (c0 : Nat) (l0 : List (S39)) (a1_0 : Int) (a1_1 : Int) (a1_2 : Int) (a1_3 : Int) (a1_4 : Int) (r : Bool) (w : World) (hr0 : Kd.C k39 w A0 l0.length l0) (hc0 : l0.length ≤ c0) (h : decoupagelaw28_RasterDraws.f k l0 a1_0 a1_1 a1_2 a1_3 a1_4 = some r) :
    Calls Try.prog 7 #[.slice A0 l0.length c0, .agg #[.int .i64 a1_0, .int .i64 a1_1, .int .i64 a1_2, .int .i64 a1_3, .int .i64 a1_4]] w fun e w' => e = .returned (.bool r) ∧ Below w.heap.size w w' := by
  have hu44 := Try.underlying44
  have HR0 := Aside0.mk hr0
  have HC0 := Aside0.mk hc0
  clear hr0 hc0
  have HB := Aside0.mk (Below.refl w.heap.size w)
  have H : ((decoupagelaw28_awake.f k).bind fun t180 => (if t180 = true then (decoupagelaw28_RasterDraws.j0 k l0 (decide ((l0.length : Int) > 30)) a1_0 a1_1 a1_2 a1_3 a1_4) else (decoupagelaw28_RasterDraws.j0 k l0 true a1_0 a1_1 a1_2 a1_3 a1_4))) = some r := h
  clear h
  have HC3 := Aside0.mk H
  clear H
  go_enter Try.func7, Try.ntmps7
  go_upto_region 1 with (first | ((with_reducible refine gate_dst (N := 3) rfl ?_); (try (refine gate_guard (by rfl) ?_; dsimp only)); refine box_event ?hg (N := 3) ?hd (cs := #[.int .i64 a1_0, .int .i64 a1_1, .int .i64 a1_2, .int .i64 a1_3, .int .i64 a1_4]) (t := 44) ?hr ?_; (case hd => rfl); (case hg => rfl); (case hr => first | (go_simp; done) | (go_simp; rfl)); intro gb179 hg w4 hbox hb; have n0_ := Aside0.mk (below_step (by repeat (first | (with_reducible first | exact HB.out | apply below_alloc | apply pw_below_drewN | apply below_drew1) | exact HB.out)) hb); have n1_ := Aside0.mk (hbox); have n2_ := Aside0.mk ((by rw [hg]; exact (below_size (by repeat (first | (with_reducible first | exact HB.out | apply below_alloc | apply pw_below_drewN | apply below_drew1) | exact HB.out))) : w.heap.size ≤ gb179)); have n3_ := Aside0.mk ((by rw [hg]; exact (below_size (by repeat (first | (with_reducible first | exact HB.out | apply below_alloc | apply pw_below_drewN | apply below_drew1) | exact HB.out))) : w.heap.size ≤ gb179)); clear HB; have HB := n0_; have BK179 := n1_; have GW179 := n2_; have GE179 := n3_; clear n0_ n1_ n2_ n3_; clear hb hbox hg))
  repeat (go_quiet (first | ((with_reducible refine gate_dst (N := 3) rfl ?_); (try (refine gate_guard (by rfl) ?_; dsimp only)); refine box_event ?hg (N := 3) ?hd (cs := #[.int .i64 a1_0, .int .i64 a1_1, .int .i64 a1_2, .int .i64 a1_3, .int .i64 a1_4]) (t := 44) ?hr ?_; (case hd => rfl); (case hg => rfl); (case hr => first | (go_simp; done) | (go_simp; rfl)); intro gb179 hg w4 hbox hb; have n0_ := Aside0.mk (below_step (by repeat (first | (with_reducible first | exact HB.out | apply below_alloc | apply pw_below_drewN | apply below_drew1) | exact HB.out)) hb); have n1_ := Aside0.mk (hbox); have n2_ := Aside0.mk ((by rw [hg]; exact (below_size (by repeat (first | (with_reducible first | exact HB.out | apply below_alloc | apply pw_below_drewN | apply below_drew1) | exact HB.out))) : w.heap.size ≤ gb179)); have n3_ := Aside0.mk ((by rw [hg]; exact (below_size (by repeat (first | (with_reducible first | exact HB.out | apply below_alloc | apply pw_below_drewN | apply below_drew1) | exact HB.out))) : w.heap.size ≤ gb179)); clear HB; have HB := n0_; have BK179 := n1_; have GW179 := n2_; have GE179 := n3_; clear n0_ n1_ n2_ n3_; clear hb hbox hg)); go_upto_region 1 with (first | ((with_reducible refine gate_dst (N := 3) rfl ?_); (try (refine gate_guard (by rfl) ?_; dsimp only)); refine box_event ?hg (N := 3) ?hd (cs := #[.int .i64 a1_0, .int .i64 a1_1, .int .i64 a1_2, .int .i64 a1_3, .int .i64 a1_4]) (t := 44) ?hr ?_; (case hd => rfl); (case hg => rfl); (case hr => first | (go_simp; done) | (go_simp; rfl)); intro gb179 hg w4 hbox hb; have n0_ := Aside0.mk (below_step (by repeat (first | (with_reducible first | exact HB.out | apply below_alloc | apply pw_below_drewN | apply below_drew1) | exact HB.out)) hb); have n1_ := Aside0.mk (hbox); have n2_ := Aside0.mk ((by rw [hg]; exact (below_size (by repeat (first | (with_reducible first | exact HB.out | apply below_alloc | apply pw_below_drewN | apply below_drew1) | exact HB.out))) : w.heap.size ≤ gb179)); have n3_ := Aside0.mk ((by rw [hg]; exact (below_size (by repeat (first | (with_reducible first | exact HB.out | apply below_alloc | apply pw_below_drewN | apply below_drew1) | exact HB.out))) : w.heap.size ≤ gb179)); clear HB; have HB := n0_; have BK179 := n1_; have GW179 := n2_; have GE179 := n3_; clear n0_ n1_ n2_ n3_; clear hb hbox hg)))
  (try simp only [Act.put, List.setIfInBounds_toArray, List.set_cons_zero, List.set_cons_succ])
  go_cut [17] (fun v17 wc => ∃ (kq : Nat) (x17_2 : Bool), v17 = .bool x17_2 ∧ Aside0 (decoupagelaw28_RasterDraws.j0 kq l0 x17_2 a1_0 a1_1 a1_2 a1_3 a1_4 = some r) ∧ Aside0 (kq ≤ k) ∧ Aside0 (wc.heap[gb179]? = some (.cells #[.int .i64 a1_0, .int .i64 a1_1, .int .i64 a1_2, .int .i64 a1_3, .int .i64 a1_4] 44 (0, 0))) ∧ Aside0 (Below w.heap.size w wc))
  case first =>
    have H := HC3.out
    clear HC3
    replace H := Option.bind_eq_some_iff.mp H
    obtain ⟨t180, A50, H⟩ := H
    replace H : (if t180 = true then (decoupagelaw28_RasterDraws.j0 k l0 (decide ((l0.length : Int) > 30)) a1_0 a1_1 a1_2 a1_3 a1_4) else (decoupagelaw28_RasterDraws.j0 k l0 true a1_0 a1_1 a1_2 a1_3 a1_4)) = some r := H
    have A5 := Aside0.mk A50
    clear A50
    by_cases c6 : t180 = true
    · subst c6
      have H1 : (decoupagelaw28_RasterDraws.j0 k l0 (decide ((l0.length : Int) > 30)) a1_0 a1_1 a1_2 a1_3 a1_4) = some r := by rw [if_pos rfl] at H; exact H
      clear H
      have H := H1
      clear H1
      have H' := Aside0.mk H
      clear H
      go_wp2_with (first | (go_at_call 26; (with_reducible refine (decoupagelaw28_awake.calls k  true _ A5.out).mono ?_); rintro e w7 ⟨rfl, hb⟩; have n0_ := Aside0.mk (blk_below (g := gb179) (o := .cells #[.int .i64 a1_0, .int .i64 a1_1, .int .i64 a1_2, .int .i64 a1_3, .int .i64 a1_4] 44 (0, 0)) (by (with_reducible repeat (first | refine blk_drewN ?_ _ | refine blk_drew ?_ | refine blk_alloc ?_ _)); exact BK179.out) hb); have n1_ := Aside0.mk (below_step (by repeat (first | (with_reducible first | exact HB.out | apply below_alloc | apply pw_below_drewN | apply below_drew1 | refine below_set ?_ GE179.out) | exact HB.out)) hb); clear BK179; clear HB; have BK179 := n0_; have HB := n1_; clear n0_ n1_; (try clear hb); (try clear hb2); (try clear hk); (try clear hi)))
      repeat (go_quiet (first | (go_at_call 26; (with_reducible refine (decoupagelaw28_awake.calls k  true _ A5.out).mono ?_); rintro e w7 ⟨rfl, hb⟩; have n0_ := Aside0.mk (blk_below (g := gb179) (o := .cells #[.int .i64 a1_0, .int .i64 a1_1, .int .i64 a1_2, .int .i64 a1_3, .int .i64 a1_4] 44 (0, 0)) (by (with_reducible repeat (first | refine blk_drewN ?_ _ | refine blk_drew ?_ | refine blk_alloc ?_ _)); exact BK179.out) hb); have n1_ := Aside0.mk (below_step (by repeat (first | (with_reducible first | exact HB.out | apply below_alloc | apply pw_below_drewN | apply below_drew1 | refine below_set ?_ GE179.out) | exact HB.out)) hb); clear BK179; clear HB; have BK179 := n0_; have HB := n1_; clear n0_ n1_; (try clear hb); (try clear hb2); (try clear hk); (try clear hi))); try go_wp2_with (first | (go_at_call 26; (with_reducible refine (decoupagelaw28_awake.calls k  true _ A5.out).mono ?_); rintro e w7 ⟨rfl, hb⟩; have n0_ := Aside0.mk (blk_below (g := gb179) (o := .cells #[.int .i64 a1_0, .int .i64 a1_1, .int .i64 a1_2, .int .i64 a1_3, .int .i64 a1_4] 44 (0, 0)) (by (with_reducible repeat (first | refine blk_drewN ?_ _ | refine blk_drew ?_ | refine blk_alloc ?_ _)); exact BK179.out) hb); have n1_ := Aside0.mk (below_step (by repeat (first | (with_reducible first | exact HB.out | apply below_alloc | apply pw_below_drewN | apply below_drew1 | refine below_set ?_ GE179.out) | exact HB.out)) hb); clear BK179; clear HB; have BK179 := n0_; have HB := n1_; clear n0_ n1_; (try clear hb); (try clear hb2); (try clear hk); (try clear hi))))
      go_meet
      case rel => exact ⟨_, (decide ((l0.length : Int) > 30)), (by first | rfl | (simp; done) | (simp [*]; done)), H', ⟨by first | omega | exact Nat.le_refl _⟩, ⟨by (with_reducible repeat (first | refine blk_drewN ?_ _ | refine blk_drew ?_ | refine blk_alloc ?_ _)); exact BK179.out⟩, ⟨by repeat (first | (with_reducible first | exact HB.out | apply below_alloc | apply pw_below_drewN | apply below_drew1 | refine below_set ?_ GE179.out) | exact HB.out)⟩⟩
    · replace c6 := Bool.eq_false_iff.mpr c6
      subst c6
      have H1 : (decoupagelaw28_RasterDraws.j0 k l0 true a1_0 a1_1 a1_2 a1_3 a1_4) = some r := by rw [if_neg (show ¬ (false = true) by decide)] at H; exact H
      clear H
      have H := H1
      clear H1
      have H' := Aside0.mk H
      clear H
      go_wp2_with (first | (go_at_call 26; (with_reducible refine (decoupagelaw28_awake.calls k  false _ A5.out).mono ?_); rintro e w8 ⟨rfl, hb⟩; have n0_ := Aside0.mk (blk_below (g := gb179) (o := .cells #[.int .i64 a1_0, .int .i64 a1_1, .int .i64 a1_2, .int .i64 a1_3, .int .i64 a1_4] 44 (0, 0)) (by (with_reducible repeat (first | refine blk_drewN ?_ _ | refine blk_drew ?_ | refine blk_alloc ?_ _)); exact BK179.out) hb); have n1_ := Aside0.mk (below_step (by repeat (first | (with_reducible first | exact HB.out | apply below_alloc | apply pw_below_drewN | apply below_drew1 | refine below_set ?_ GE179.out) | exact HB.out)) hb); clear BK179; clear HB; have BK179 := n0_; have HB := n1_; clear n0_ n1_; (try clear hb); (try clear hb2); (try clear hk); (try clear hi)))
      repeat (go_quiet (first | (go_at_call 26; (with_reducible refine (decoupagelaw28_awake.calls k  false _ A5.out).mono ?_); rintro e w8 ⟨rfl, hb⟩; have n0_ := Aside0.mk (blk_below (g := gb179) (o := .cells #[.int .i64 a1_0, .int .i64 a1_1, .int .i64 a1_2, .int .i64 a1_3, .int .i64 a1_4] 44 (0, 0)) (by (with_reducible repeat (first | refine blk_drewN ?_ _ | refine blk_drew ?_ | refine blk_alloc ?_ _)); exact BK179.out) hb); have n1_ := Aside0.mk (below_step (by repeat (first | (with_reducible first | exact HB.out | apply below_alloc | apply pw_below_drewN | apply below_drew1 | refine below_set ?_ GE179.out) | exact HB.out)) hb); clear BK179; clear HB; have BK179 := n0_; have HB := n1_; clear n0_ n1_; (try clear hb); (try clear hb2); (try clear hk); (try clear hi))); try go_wp2_with (first | (go_at_call 26; (with_reducible refine (decoupagelaw28_awake.calls k  false _ A5.out).mono ?_); rintro e w8 ⟨rfl, hb⟩; have n0_ := Aside0.mk (blk_below (g := gb179) (o := .cells #[.int .i64 a1_0, .int .i64 a1_1, .int .i64 a1_2, .int .i64 a1_3, .int .i64 a1_4] 44 (0, 0)) (by (with_reducible repeat (first | refine blk_drewN ?_ _ | refine blk_drew ?_ | refine blk_alloc ?_ _)); exact BK179.out) hb); have n1_ := Aside0.mk (below_step (by repeat (first | (with_reducible first | exact HB.out | apply below_alloc | apply pw_below_drewN | apply below_drew1 | refine below_set ?_ GE179.out) | exact HB.out)) hb); clear BK179; clear HB; have BK179 := n0_; have HB := n1_; clear n0_ n1_; (try clear hb); (try clear hb2); (try clear hk); (try clear hi))))
      go_meet
      case rel => exact ⟨_, (true), (by first | rfl | (simp; done) | (simp [*]; done)), H', ⟨by first | omega | exact Nat.le_refl _⟩, ⟨by (with_reducible repeat (first | refine blk_drewN ?_ _ | refine blk_drew ?_ | refine blk_alloc ?_ _)); exact BK179.out⟩, ⟨by repeat (first | (with_reducible first | exact HB.out | apply below_alloc | apply pw_below_drewN | apply below_drew1 | refine below_set ?_ GE179.out) | exact HB.out)⟩⟩
  case rest =>
    clear HC3
    try clear p2
    try clear c6
    try clear c7
    obtain ⟨kq, x17_2, rfl, HA, HJ2, BK179, HB⟩ := hcut
    cases kq with
    | zero => exact absurd HA.out (by simp [decoupagelaw28_RasterDraws.j0])
    | succ kj2 =>
      have H := HA.out
      clear HA
      simp only [decoupagelaw28_RasterDraws.j0] at H
      by_cases c9 : x17_2 = true
      · subst c9
        have H1 : ((decoupagelaw28_awake.f kj2).bind fun t181 => (some t181)) = some r := by rw [if_pos rfl] at H; exact H
        clear H
        have H := H1
        clear H1
        replace H := Option.bind_eq_some_iff.mp H
        obtain ⟨t181, A100, H⟩ := H
        replace H : (some t181) = some r := H
        have A10 := Aside0.mk A100
        clear A100
        obtain rfl := Option.some.inj H
        go_wp2_with (first | (go_at_call 26; (with_reducible refine (decoupagelaw28_awake.calls kj2  t181 _ A10.out).mono ?_); rintro e w11 ⟨rfl, hb⟩; have n0_ := Aside0.mk (blk_below (g := gb179) (o := .cells #[.int .i64 a1_0, .int .i64 a1_1, .int .i64 a1_2, .int .i64 a1_3, .int .i64 a1_4] 44 (0, 0)) (by (with_reducible repeat (first | refine blk_drewN ?_ _ | refine blk_drew ?_ | refine blk_alloc ?_ _)); exact BK179.out) hb); have n1_ := Aside0.mk (below_step (by repeat (first | (with_reducible first | exact HB.out | apply below_alloc | apply pw_below_drewN | apply below_drew1 | refine below_set ?_ GE179.out) | exact HB.out)) hb); clear BK179; clear HB; have BK179 := n0_; have HB := n1_; clear n0_ n1_; (try clear hb); (try clear hb2); (try clear hk); (try clear hi)))
        repeat (go_quiet (first | (go_at_call 26; (with_reducible refine (decoupagelaw28_awake.calls kj2  t181 _ A10.out).mono ?_); rintro e w11 ⟨rfl, hb⟩; have n0_ := Aside0.mk (blk_below (g := gb179) (o := .cells #[.int .i64 a1_0, .int .i64 a1_1, .int .i64 a1_2, .int .i64 a1_3, .int .i64 a1_4] 44 (0, 0)) (by (with_reducible repeat (first | refine blk_drewN ?_ _ | refine blk_drew ?_ | refine blk_alloc ?_ _)); exact BK179.out) hb); have n1_ := Aside0.mk (below_step (by repeat (first | (with_reducible first | exact HB.out | apply below_alloc | apply pw_below_drewN | apply below_drew1 | refine below_set ?_ GE179.out) | exact HB.out)) hb); clear BK179; clear HB; have BK179 := n0_; have HB := n1_; clear n0_ n1_; (try clear hb); (try clear hb2); (try clear hk); (try clear hi))); try go_wp2_with (first | (go_at_call 26; (with_reducible refine (decoupagelaw28_awake.calls kj2  t181 _ A10.out).mono ?_); rintro e w11 ⟨rfl, hb⟩; have n0_ := Aside0.mk (blk_below (g := gb179) (o := .cells #[.int .i64 a1_0, .int .i64 a1_1, .int .i64 a1_2, .int .i64 a1_3, .int .i64 a1_4] 44 (0, 0)) (by (with_reducible repeat (first | refine blk_drewN ?_ _ | refine blk_drew ?_ | refine blk_alloc ?_ _)); exact BK179.out) hb); have n1_ := Aside0.mk (below_step (by repeat (first | (with_reducible first | exact HB.out | apply below_alloc | apply pw_below_drewN | apply below_drew1 | refine below_set ?_ GE179.out) | exact HB.out)) hb); clear BK179; clear HB; have BK179 := n0_; have HB := n1_; clear n0_ n1_; (try clear hb); (try clear hb2); (try clear hk); (try clear hi))))
        go_ret
        exact ⟨by first | rfl | (simp [errW_none, errW_some] <;> rfl) | (simp [*, errW_none, errW_some] <;> rfl), by repeat (first | (with_reducible first | exact HB.out | apply below_alloc | apply pw_below_drewN | apply below_drew1 | refine below_set ?_ GE179.out) | exact HB.out)⟩
      · replace c9 := Bool.eq_false_iff.mpr c9
        subst c9
        have H1 : ((decoupageref28_Right.f a1_0 a1_1 a1_2 a1_3 a1_4).bind fun t182 => (if t182 = true then (if (wrap64 (a1_3 * a1_4)) > 400 then (some true) else ((raster_Draw.f kj2 l0 a1_0 a1_1 a1_2 a1_3 a1_4).bind fun bt187 => ((decoupageref28_Draw.f kj2 l0 a1_0 a1_1 a1_2 a1_3 a1_4).bind fun t191 => (if bt187.2 = 0 then (decoupagelaw28_RasterDraws.j1 kj2 bt187.1 t191 ((bt187.1.length : Int) != (t191.length : Int))) else (decoupagelaw28_RasterDraws.j1 kj2 bt187.1 t191 true))))) else ((raster_Draw.f kj2 l0 a1_0 a1_1 a1_2 a1_3 a1_4).bind fun bt183 => (if bt183.2 = 1 then (some ((bt183.1.length : Int) == 0)) else (some false))))) = some r := by rw [if_neg (show ¬ (false = true) by decide)] at H; exact H
        clear H
        have H := H1
        clear H1
        replace H := Option.bind_eq_some_iff.mp H
        obtain ⟨t182, A120, H⟩ := H
        replace H : (if t182 = true then (if (wrap64 (a1_3 * a1_4)) > 400 then (some true) else ((raster_Draw.f kj2 l0 a1_0 a1_1 a1_2 a1_3 a1_4).bind fun bt187 => ((decoupageref28_Draw.f kj2 l0 a1_0 a1_1 a1_2 a1_3 a1_4).bind fun t191 => (if bt187.2 = 0 then (decoupagelaw28_RasterDraws.j1 kj2 bt187.1 t191 ((bt187.1.length : Int) != (t191.length : Int))) else (decoupagelaw28_RasterDraws.j1 kj2 bt187.1 t191 true))))) else ((raster_Draw.f kj2 l0 a1_0 a1_1 a1_2 a1_3 a1_4).bind fun bt183 => (if bt183.2 = 1 then (some ((bt183.1.length : Int) == 0)) else (some false)))) = some r := H
        have A12 := Aside0.mk A120
        clear A120
        by_cases c13 : t182 = true
        · subst c13
          have H1 : (if (wrap64 (a1_3 * a1_4)) > 400 then (some true) else ((raster_Draw.f kj2 l0 a1_0 a1_1 a1_2 a1_3 a1_4).bind fun bt187 => ((decoupageref28_Draw.f kj2 l0 a1_0 a1_1 a1_2 a1_3 a1_4).bind fun t191 => (if bt187.2 = 0 then (decoupagelaw28_RasterDraws.j1 kj2 bt187.1 t191 ((bt187.1.length : Int) != (t191.length : Int))) else (decoupagelaw28_RasterDraws.j1 kj2 bt187.1 t191 true))))) = some r := by rw [if_pos rfl] at H; exact H
          clear H
          have H := H1
          clear H1
          by_cases c14 : (wrap64 (a1_3 * a1_4)) > 400
          · rw [if_pos c14] at H
            have c14b0 : decide (400 < (wrap64 (a1_3 * a1_4))) = true := decide_eq_true c14
            clear c14
            obtain rfl := Option.some.inj H
            have hcz15_0 : wc.cell? ⟨gb179, 0, none⟩ = some (.int .i64 a1_0) := (blk_cell BK179.out 0).trans rfl
            have hcz15_1 : wc.cell? ⟨gb179, 1, none⟩ = some (.int .i64 a1_1) := (blk_cell BK179.out 1).trans rfl
            have hcz15_2 : wc.cell? ⟨gb179, 2, none⟩ = some (.int .i64 a1_2) := (blk_cell BK179.out 2).trans rfl
            have hcz15_3 : wc.cell? ⟨gb179, 3, none⟩ = some (.int .i64 a1_3) := (blk_cell BK179.out 3).trans rfl
            have hcz15_4 : wc.cell? ⟨gb179, 4, none⟩ = some (.int .i64 a1_4) := (blk_cell BK179.out 4).trans rfl
            have hfz15_0 := blk_frozen BK179.out 0
            have hfz15_1 := blk_frozen BK179.out 1
            have hfz15_2 := blk_frozen BK179.out 2
            have hfz15_3 := blk_frozen BK179.out 3
            have hfz15_4 := blk_frozen BK179.out 4
            go_wp2_with (first | (go_at_call 27; (with_reducible refine (decoupageref28_Right.calls a1_0 a1_1 a1_2 a1_3 a1_4 true _ A12.out).mono ?_); rintro e w16 ⟨rfl, hb⟩; have n0_ := Aside0.mk (blk_below (g := gb179) (o := .cells #[.int .i64 a1_0, .int .i64 a1_1, .int .i64 a1_2, .int .i64 a1_3, .int .i64 a1_4] 44 (0, 0)) (by (with_reducible repeat (first | refine blk_drewN ?_ _ | refine blk_drew ?_ | refine blk_alloc ?_ _)); exact BK179.out) hb); have n1_ := Aside0.mk (below_step (by repeat (first | (with_reducible first | exact HB.out | apply below_alloc | apply pw_below_drewN | apply below_drew1 | refine below_set ?_ GE179.out) | exact HB.out)) hb); clear BK179; clear HB; have BK179 := n0_; have HB := n1_; clear n0_ n1_; (try clear hb); (try clear hb2); (try clear hk); (try clear hi); have hcz17_0 : w16.cell? ⟨gb179, 0, none⟩ = some (.int .i64 a1_0) := (blk_cell BK179.out 0).trans rfl; have hcz17_1 : w16.cell? ⟨gb179, 1, none⟩ = some (.int .i64 a1_1) := (blk_cell BK179.out 1).trans rfl; have hcz17_2 : w16.cell? ⟨gb179, 2, none⟩ = some (.int .i64 a1_2) := (blk_cell BK179.out 2).trans rfl; have hcz17_3 : w16.cell? ⟨gb179, 3, none⟩ = some (.int .i64 a1_3) := (blk_cell BK179.out 3).trans rfl; have hcz17_4 : w16.cell? ⟨gb179, 4, none⟩ = some (.int .i64 a1_4) := (blk_cell BK179.out 4).trans rfl; have hfz17_0 := blk_frozen BK179.out 0; have hfz17_1 := blk_frozen BK179.out 1; have hfz17_2 := blk_frozen BK179.out 2; have hfz17_3 := blk_frozen BK179.out 3; have hfz17_4 := blk_frozen BK179.out 4))
            repeat (go_quiet (first | (go_at_call 27; (with_reducible refine (decoupageref28_Right.calls a1_0 a1_1 a1_2 a1_3 a1_4 true _ A12.out).mono ?_); rintro e w16 ⟨rfl, hb⟩; have n0_ := Aside0.mk (blk_below (g := gb179) (o := .cells #[.int .i64 a1_0, .int .i64 a1_1, .int .i64 a1_2, .int .i64 a1_3, .int .i64 a1_4] 44 (0, 0)) (by (with_reducible repeat (first | refine blk_drewN ?_ _ | refine blk_drew ?_ | refine blk_alloc ?_ _)); exact BK179.out) hb); have n1_ := Aside0.mk (below_step (by repeat (first | (with_reducible first | exact HB.out | apply below_alloc | apply pw_below_drewN | apply below_drew1 | refine below_set ?_ GE179.out) | exact HB.out)) hb); clear BK179; clear HB; have BK179 := n0_; have HB := n1_; clear n0_ n1_; (try clear hb); (try clear hb2); (try clear hk); (try clear hi); have hcz17_0 : w16.cell? ⟨gb179, 0, none⟩ = some (.int .i64 a1_0) := (blk_cell BK179.out 0).trans rfl; have hcz17_1 : w16.cell? ⟨gb179, 1, none⟩ = some (.int .i64 a1_1) := (blk_cell BK179.out 1).trans rfl; have hcz17_2 : w16.cell? ⟨gb179, 2, none⟩ = some (.int .i64 a1_2) := (blk_cell BK179.out 2).trans rfl; have hcz17_3 : w16.cell? ⟨gb179, 3, none⟩ = some (.int .i64 a1_3) := (blk_cell BK179.out 3).trans rfl; have hcz17_4 : w16.cell? ⟨gb179, 4, none⟩ = some (.int .i64 a1_4) := (blk_cell BK179.out 4).trans rfl; have hfz17_0 := blk_frozen BK179.out 0; have hfz17_1 := blk_frozen BK179.out 1; have hfz17_2 := blk_frozen BK179.out 2; have hfz17_3 := blk_frozen BK179.out 3; have hfz17_4 := blk_frozen BK179.out 4)); try go_wp2_with (first | (go_at_call 27; (with_reducible refine (decoupageref28_Right.calls a1_0 a1_1 a1_2 a1_3 a1_4 true _ A12.out).mono ?_); rintro e w16 ⟨rfl, hb⟩; have n0_ := Aside0.mk (blk_below (g := gb179) (o := .cells #[.int .i64 a1_0, .int .i64 a1_1, .int .i64 a1_2, .int .i64 a1_3, .int .i64 a1_4] 44 (0, 0)) (by (with_reducible repeat (first | refine blk_drewN ?_ _ | refine blk_drew ?_ | refine blk_alloc ?_ _)); exact BK179.out) hb); have n1_ := Aside0.mk (below_step (by repeat (first | (with_reducible first | exact HB.out | apply below_alloc | apply pw_below_drewN | apply below_drew1 | refine below_set ?_ GE179.out) | exact HB.out)) hb); clear BK179; clear HB; have BK179 := n0_; have HB := n1_; clear n0_ n1_; (try clear hb); (try clear hb2); (try clear hk); (try clear hi); have hcz17_0 : w16.cell? ⟨gb179, 0, none⟩ = some (.int .i64 a1_0) := (blk_cell BK179.out 0).trans rfl; have hcz17_1 : w16.cell? ⟨gb179, 1, none⟩ = some (.int .i64 a1_1) := (blk_cell BK179.out 1).trans rfl; have hcz17_2 : w16.cell? ⟨gb179, 2, none⟩ = some (.int .i64 a1_2) := (blk_cell BK179.out 2).trans rfl; have hcz17_3 : w16.cell? ⟨gb179, 3, none⟩ = some (.int .i64 a1_3) := (blk_cell BK179.out 3).trans rfl; have hcz17_4 : w16.cell? ⟨gb179, 4, none⟩ = some (.int .i64 a1_4) := (blk_cell BK179.out 4).trans rfl; have hfz17_0 := blk_frozen BK179.out 0; have hfz17_1 := blk_frozen BK179.out 1; have hfz17_2 := blk_frozen BK179.out 2; have hfz17_3 := blk_frozen BK179.out 3; have hfz17_4 := blk_frozen BK179.out 4)))
            go_ret
            exact ⟨by first | rfl | (simp [errW_none, errW_some] <;> rfl) | (simp [*, errW_none, errW_some] <;> rfl), by repeat (first | (with_reducible first | exact HB.out | apply below_alloc | apply pw_below_drewN | apply below_drew1 | refine below_set ?_ GE179.out) | exact HB.out)⟩
          · rw [if_neg c14] at H
            have c14b0 : decide (400 < (wrap64 (a1_3 * a1_4))) = false := decide_eq_false c14
            clear c14
            replace H := Option.bind_eq_some_iff.mp H
            obtain ⟨⟨t187, t190⟩, A180, H⟩ := H
            replace H : ((decoupageref28_Draw.f kj2 l0 a1_0 a1_1 a1_2 a1_3 a1_4).bind fun t191 => (if t190 = 0 then (decoupagelaw28_RasterDraws.j1 kj2 t187 t191 ((t187.length : Int) != (t191.length : Int))) else (decoupagelaw28_RasterDraws.j1 kj2 t187 t191 true))) = some r := H
            have A18 := Aside0.mk A180
            clear A180
            replace H := Option.bind_eq_some_iff.mp H
            obtain ⟨t191, A190, H⟩ := H
            replace H : (if t190 = 0 then (decoupagelaw28_RasterDraws.j1 kj2 t187 t191 ((t187.length : Int) != (t191.length : Int))) else (decoupagelaw28_RasterDraws.j1 kj2 t187 t191 true)) = some r := H
            have A19 := Aside0.mk A190
            clear A190
            have HC20 := Aside0.mk H
            clear H
            have hcz21_0 : wc.cell? ⟨gb179, 0, none⟩ = some (.int .i64 a1_0) := (blk_cell BK179.out 0).trans rfl
            have hcz21_1 : wc.cell? ⟨gb179, 1, none⟩ = some (.int .i64 a1_1) := (blk_cell BK179.out 1).trans rfl
            have hcz21_2 : wc.cell? ⟨gb179, 2, none⟩ = some (.int .i64 a1_2) := (blk_cell BK179.out 2).trans rfl
            have hcz21_3 : wc.cell? ⟨gb179, 3, none⟩ = some (.int .i64 a1_3) := (blk_cell BK179.out 3).trans rfl
            have hcz21_4 : wc.cell? ⟨gb179, 4, none⟩ = some (.int .i64 a1_4) := (blk_cell BK179.out 4).trans rfl
            have hfz21_0 := blk_frozen BK179.out 0
            have hfz21_1 := blk_frozen BK179.out 1
            have hfz21_2 := blk_frozen BK179.out 2
            have hfz21_3 := blk_frozen BK179.out 3
            have hfz21_4 := blk_frozen BK179.out 4
            go_upto_region 10 with (first | (go_at_call 27; (with_reducible refine (decoupageref28_Right.calls a1_0 a1_1 a1_2 a1_3 a1_4 true _ A12.out).mono ?_); rintro e w22 ⟨rfl, hb⟩; have n0_ := Aside0.mk (blk_below (g := gb179) (o := .cells #[.int .i64 a1_0, .int .i64 a1_1, .int .i64 a1_2, .int .i64 a1_3, .int .i64 a1_4] 44 (0, 0)) (by (with_reducible repeat (first | refine blk_drewN ?_ _ | refine blk_drew ?_ | refine blk_alloc ?_ _)); exact BK179.out) hb); have n1_ := Aside0.mk (below_step (by repeat (first | (with_reducible first | exact HB.out | apply below_alloc | apply pw_below_drewN | apply below_drew1 | refine below_set ?_ GE179.out) | exact HB.out)) hb); clear BK179; clear HB; have BK179 := n0_; have HB := n1_; clear n0_ n1_; (try clear hb); (try clear hb2); (try clear hk); (try clear hi); have hcz23_0 : w22.cell? ⟨gb179, 0, none⟩ = some (.int .i64 a1_0) := (blk_cell BK179.out 0).trans rfl; have hcz23_1 : w22.cell? ⟨gb179, 1, none⟩ = some (.int .i64 a1_1) := (blk_cell BK179.out 1).trans rfl; have hcz23_2 : w22.cell? ⟨gb179, 2, none⟩ = some (.int .i64 a1_2) := (blk_cell BK179.out 2).trans rfl; have hcz23_3 : w22.cell? ⟨gb179, 3, none⟩ = some (.int .i64 a1_3) := (blk_cell BK179.out 3).trans rfl; have hcz23_4 : w22.cell? ⟨gb179, 4, none⟩ = some (.int .i64 a1_4) := (blk_cell BK179.out 4).trans rfl; have hfz23_0 := blk_frozen BK179.out 0; have hfz23_1 := blk_frozen BK179.out 1; have hfz23_2 := blk_frozen BK179.out 2; have hfz23_3 := blk_frozen BK179.out 3; have hfz23_4 := blk_frozen BK179.out 4) | (go_at_call 28; (with_reducible refine (raster_Draw.calls kj2 _ _ l0 a1_0 a1_1 a1_2 a1_3 a1_4 t187 t190 _ ?side1 ?side2 A18.out).mono ?_); (case side1 => repeat (first | exact (Kd.C_below HR0.out HB.out) | (with_reducible refine Kd.C_alloc ?_ _) | (with_reducible refine Kd.C_drewN ?_ _) | (with_reducible refine Kd.C_drew ?_))); (case side2 => exact HC0.out); rintro e w24 ⟨v188, rfl, ho0, hb⟩; have n0_ := Aside0.mk (Kd.R_lower ho0 (below_size (by repeat (first | (with_reducible first | exact HB.out | apply below_alloc | apply pw_below_drewN | apply below_drew1 | refine below_set ?_ GE179.out) | exact HB.out)))); have n1_ := Aside0.mk (blk_below (g := gb179) (o := .cells #[.int .i64 a1_0, .int .i64 a1_1, .int .i64 a1_2, .int .i64 a1_3, .int .i64 a1_4] 44 (0, 0)) (by (with_reducible repeat (first | refine blk_drewN ?_ _ | refine blk_drew ?_ | refine blk_alloc ?_ _)); exact BK179.out) hb); have n2_ := Aside0.mk (below_step (by repeat (first | (with_reducible first | exact HB.out | apply below_alloc | apply pw_below_drewN | apply below_drew1 | refine below_set ?_ GE179.out) | exact HB.out)) hb); clear BK179; clear HB; have HO189 := n0_; have BK179 := n1_; have HB := n2_; clear n0_ n1_ n2_; (try clear hb); (try clear hb2); (try clear hk); (try clear hi); (try clear ho0); have hcz25_0 : w24.cell? ⟨gb179, 0, none⟩ = some (.int .i64 a1_0) := (blk_cell BK179.out 0).trans rfl; have hcz25_1 : w24.cell? ⟨gb179, 1, none⟩ = some (.int .i64 a1_1) := (blk_cell BK179.out 1).trans rfl; have hcz25_2 : w24.cell? ⟨gb179, 2, none⟩ = some (.int .i64 a1_2) := (blk_cell BK179.out 2).trans rfl; have hcz25_3 : w24.cell? ⟨gb179, 3, none⟩ = some (.int .i64 a1_3) := (blk_cell BK179.out 3).trans rfl; have hcz25_4 : w24.cell? ⟨gb179, 4, none⟩ = some (.int .i64 a1_4) := (blk_cell BK179.out 4).trans rfl; have hfz25_0 := blk_frozen BK179.out 0; have hfz25_1 := blk_frozen BK179.out 1; have hfz25_2 := blk_frozen BK179.out 2; have hfz25_3 := blk_frozen BK179.out 3; have hfz25_4 := blk_frozen BK179.out 4) | (go_at_call 29; (with_reducible refine (decoupageref28_Draw.calls kj2 _ _ l0 a1_0 a1_1 a1_2 a1_3 a1_4 t191 _ ?side1 ?side2 A19.out).mono ?_); (case side1 => repeat (first | exact (Kd.C_below HR0.out HB.out) | (with_reducible refine Kd.C_alloc ?_ _) | (with_reducible refine Kd.C_drewN ?_ _) | (with_reducible refine Kd.C_drew ?_))); (case side2 => exact HC0.out); rintro e w26 ⟨v192, rfl, ho0, hb⟩; have n0_ := Aside0.mk (Kd.R_elder' (by (with_reducible repeat (first | apply Kd.R_alloc | apply Kd.R_drewN | apply Kd.R_drew)); exact HO189.out) (Kd.R_base ho0) hb); have n1_ := Aside0.mk (Kd.R_lower (Kd.R_new' ho0 (Kd.R_lt (by (with_reducible repeat (first | apply Kd.R_alloc | apply Kd.R_drewN | apply Kd.R_drew)); exact HO189.out))) (below_size (by repeat (first | (with_reducible first | exact HB.out | apply below_alloc | apply pw_below_drewN | apply below_drew1 | refine below_set ?_ GE179.out) | exact HB.out)))); have n2_ := Aside0.mk (blk_below (g := gb179) (o := .cells #[.int .i64 a1_0, .int .i64 a1_1, .int .i64 a1_2, .int .i64 a1_3, .int .i64 a1_4] 44 (0, 0)) (by (with_reducible repeat (first | refine blk_drewN ?_ _ | refine blk_drew ?_ | refine blk_alloc ?_ _)); exact BK179.out) hb); have n3_ := Aside0.mk (below_step (by repeat (first | (with_reducible first | exact HB.out | apply below_alloc | apply pw_below_drewN | apply below_drew1 | refine below_set ?_ GE179.out) | exact HB.out)) hb); clear HO189; clear BK179; clear HB; have HO189 := n0_; have HO193 := n1_; have BK179 := n2_; have HB := n3_; clear n0_ n1_ n2_ n3_; (try clear hb); (try clear hb2); (try clear hk); (try clear hi); (try clear ho0)))
            repeat (go_quiet (first | (go_at_call 27; (with_reducible refine (decoupageref28_Right.calls a1_0 a1_1 a1_2 a1_3 a1_4 true _ A12.out).mono ?_); rintro e w22 ⟨rfl, hb⟩; have n0_ := Aside0.mk (blk_below (g := gb179) (o := .cells #[.int .i64 a1_0, .int .i64 a1_1, .int .i64 a1_2, .int .i64 a1_3, .int .i64 a1_4] 44 (0, 0)) (by (with_reducible repeat (first | refine blk_drewN ?_ _ | refine blk_drew ?_ | refine blk_alloc ?_ _)); exact BK179.out) hb); have n1_ := Aside0.mk (below_step (by repeat (first | (with_reducible first | exact HB.out | apply below_alloc | apply pw_below_drewN | apply below_drew1 | refine below_set ?_ GE179.out) | exact HB.out)) hb); clear BK179; clear HB; have BK179 := n0_; have HB := n1_; clear n0_ n1_; (try clear hb); (try clear hb2); (try clear hk); (try clear hi); have hcz23_0 : w22.cell? ⟨gb179, 0, none⟩ = some (.int .i64 a1_0) := (blk_cell BK179.out 0).trans rfl; have hcz23_1 : w22.cell? ⟨gb179, 1, none⟩ = some (.int .i64 a1_1) := (blk_cell BK179.out 1).trans rfl; have hcz23_2 : w22.cell? ⟨gb179, 2, none⟩ = some (.int .i64 a1_2) := (blk_cell BK179.out 2).trans rfl; have hcz23_3 : w22.cell? ⟨gb179, 3, none⟩ = some (.int .i64 a1_3) := (blk_cell BK179.out 3).trans rfl; have hcz23_4 : w22.cell? ⟨gb179, 4, none⟩ = some (.int .i64 a1_4) := (blk_cell BK179.out 4).trans rfl; have hfz23_0 := blk_frozen BK179.out 0; have hfz23_1 := blk_frozen BK179.out 1; have hfz23_2 := blk_frozen BK179.out 2; have hfz23_3 := blk_frozen BK179.out 3; have hfz23_4 := blk_frozen BK179.out 4) | (go_at_call 28; (with_reducible refine (raster_Draw.calls kj2 _ _ l0 a1_0 a1_1 a1_2 a1_3 a1_4 t187 t190 _ ?side1 ?side2 A18.out).mono ?_); (case side1 => repeat (first | exact (Kd.C_below HR0.out HB.out) | (with_reducible refine Kd.C_alloc ?_ _) | (with_reducible refine Kd.C_drewN ?_ _) | (with_reducible refine Kd.C_drew ?_))); (case side2 => exact HC0.out); rintro e w24 ⟨v188, rfl, ho0, hb⟩; have n0_ := Aside0.mk (Kd.R_lower ho0 (below_size (by repeat (first | (with_reducible first | exact HB.out | apply below_alloc | apply pw_below_drewN | apply below_drew1 | refine below_set ?_ GE179.out) | exact HB.out)))); have n1_ := Aside0.mk (blk_below (g := gb179) (o := .cells #[.int .i64 a1_0, .int .i64 a1_1, .int .i64 a1_2, .int .i64 a1_3, .int .i64 a1_4] 44 (0, 0)) (by (with_reducible repeat (first | refine blk_drewN ?_ _ | refine blk_drew ?_ | refine blk_alloc ?_ _)); exact BK179.out) hb); have n2_ := Aside0.mk (below_step (by repeat (first | (with_reducible first | exact HB.out | apply below_alloc | apply pw_below_drewN | apply below_drew1 | refine below_set ?_ GE179.out) | exact HB.out)) hb); clear BK179; clear HB; have HO189 := n0_; have BK179 := n1_; have HB := n2_; clear n0_ n1_ n2_; (try clear hb); (try clear hb2); (try clear hk); (try clear hi); (try clear ho0); have hcz25_0 : w24.cell? ⟨gb179, 0, none⟩ = some (.int .i64 a1_0) := (blk_cell BK179.out 0).trans rfl; have hcz25_1 : w24.cell? ⟨gb179, 1, none⟩ = some (.int .i64 a1_1) := (blk_cell BK179.out 1).trans rfl; have hcz25_2 : w24.cell? ⟨gb179, 2, none⟩ = some (.int .i64 a1_2) := (blk_cell BK179.out 2).trans rfl; have hcz25_3 : w24.cell? ⟨gb179, 3, none⟩ = some (.int .i64 a1_3) := (blk_cell BK179.out 3).trans rfl; have hcz25_4 : w24.cell? ⟨gb179, 4, none⟩ = some (.int .i64 a1_4) := (blk_cell BK179.out 4).trans rfl; have hfz25_0 := blk_frozen BK179.out 0; have hfz25_1 := blk_frozen BK179.out 1; have hfz25_2 := blk_frozen BK179.out 2; have hfz25_3 := blk_frozen BK179.out 3; have hfz25_4 := blk_frozen BK179.out 4) | (go_at_call 29; (with_reducible refine (decoupageref28_Draw.calls kj2 _ _ l0 a1_0 a1_1 a1_2 a1_3 a1_4 t191 _ ?side1 ?side2 A19.out).mono ?_); (case side1 => repeat (first | exact (Kd.C_below HR0.out HB.out) | (with_reducible refine Kd.C_alloc ?_ _) | (with_reducible refine Kd.C_drewN ?_ _) | (with_reducible refine Kd.C_drew ?_))); (case side2 => exact HC0.out); rintro e w26 ⟨v192, rfl, ho0, hb⟩; have n0_ := Aside0.mk (Kd.R_elder' (by (with_reducible repeat (first | apply Kd.R_alloc | apply Kd.R_drewN | apply Kd.R_drew)); exact HO189.out) (Kd.R_base ho0) hb); have n1_ := Aside0.mk (Kd.R_lower (Kd.R_new' ho0 (Kd.R_lt (by (with_reducible repeat (first | apply Kd.R_alloc | apply Kd.R_drewN | apply Kd.R_drew)); exact HO189.out))) (below_size (by repeat (first | (with_reducible first | exact HB.out | apply below_alloc | apply pw_below_drewN | apply below_drew1 | refine below_set ?_ GE179.out) | exact HB.out)))); have n2_ := Aside0.mk (blk_below (g := gb179) (o := .cells #[.int .i64 a1_0, .int .i64 a1_1, .int .i64 a1_2, .int .i64 a1_3, .int .i64 a1_4] 44 (0, 0)) (by (with_reducible repeat (first | refine blk_drewN ?_ _ | refine blk_drew ?_ | refine blk_alloc ?_ _)); exact BK179.out) hb); have n3_ := Aside0.mk (below_step (by repeat (first | (with_reducible first | exact HB.out | apply below_alloc | apply pw_below_drewN | apply below_drew1 | refine below_set ?_ GE179.out) | exact HB.out)) hb); clear HO189; clear BK179; clear HB; have HO189 := n0_; have HO193 := n1_; have BK179 := n2_; have HB := n3_; clear n0_ n1_ n2_ n3_; (try clear hb); (try clear hb2); (try clear hk); (try clear hi); (try clear ho0))); go_upto_region 10 with (first | (go_at_call 27; (with_reducible refine (decoupageref28_Right.calls a1_0 a1_1 a1_2 a1_3 a1_4 true _ A12.out).mono ?_); rintro e w22 ⟨rfl, hb⟩; have n0_ := Aside0.mk (blk_below (g := gb179) (o := .cells #[.int .i64 a1_0, .int .i64 a1_1, .int .i64 a1_2, .int .i64 a1_3, .int .i64 a1_4] 44 (0, 0)) (by (with_reducible repeat (first | refine blk_drewN ?_ _ | refine blk_drew ?_ | refine blk_alloc ?_ _)); exact BK179.out) hb); have n1_ := Aside0.mk (below_step (by repeat (first | (with_reducible first | exact HB.out | apply below_alloc | apply pw_below_drewN | apply below_drew1 | refine below_set ?_ GE179.out) | exact HB.out)) hb); clear BK179; clear HB; have BK179 := n0_; have HB := n1_; clear n0_ n1_; (try clear hb); (try clear hb2); (try clear hk); (try clear hi); have hcz23_0 : w22.cell? ⟨gb179, 0, none⟩ = some (.int .i64 a1_0) := (blk_cell BK179.out 0).trans rfl; have hcz23_1 : w22.cell? ⟨gb179, 1, none⟩ = some (.int .i64 a1_1) := (blk_cell BK179.out 1).trans rfl; have hcz23_2 : w22.cell? ⟨gb179, 2, none⟩ = some (.int .i64 a1_2) := (blk_cell BK179.out 2).trans rfl; have hcz23_3 : w22.cell? ⟨gb179, 3, none⟩ = some (.int .i64 a1_3) := (blk_cell BK179.out 3).trans rfl; have hcz23_4 : w22.cell? ⟨gb179, 4, none⟩ = some (.int .i64 a1_4) := (blk_cell BK179.out 4).trans rfl; have hfz23_0 := blk_frozen BK179.out 0; have hfz23_1 := blk_frozen BK179.out 1; have hfz23_2 := blk_frozen BK179.out 2; have hfz23_3 := blk_frozen BK179.out 3; have hfz23_4 := blk_frozen BK179.out 4) | (go_at_call 28; (with_reducible refine (raster_Draw.calls kj2 _ _ l0 a1_0 a1_1 a1_2 a1_3 a1_4 t187 t190 _ ?side1 ?side2 A18.out).mono ?_); (case side1 => repeat (first | exact (Kd.C_below HR0.out HB.out) | (with_reducible refine Kd.C_alloc ?_ _) | (with_reducible refine Kd.C_drewN ?_ _) | (with_reducible refine Kd.C_drew ?_))); (case side2 => exact HC0.out); rintro e w24 ⟨v188, rfl, ho0, hb⟩; have n0_ := Aside0.mk (Kd.R_lower ho0 (below_size (by repeat (first | (with_reducible first | exact HB.out | apply below_alloc | apply pw_below_drewN | apply below_drew1 | refine below_set ?_ GE179.out) | exact HB.out)))); have n1_ := Aside0.mk (blk_below (g := gb179) (o := .cells #[.int .i64 a1_0, .int .i64 a1_1, .int .i64 a1_2, .int .i64 a1_3, .int .i64 a1_4] 44 (0, 0)) (by (with_reducible repeat (first | refine blk_drewN ?_ _ | refine blk_drew ?_ | refine blk_alloc ?_ _)); exact BK179.out) hb); have n2_ := Aside0.mk (below_step (by repeat (first | (with_reducible first | exact HB.out | apply below_alloc | apply pw_below_drewN | apply below_drew1 | refine below_set ?_ GE179.out) | exact HB.out)) hb); clear BK179; clear HB; have HO189 := n0_; have BK179 := n1_; have HB := n2_; clear n0_ n1_ n2_; (try clear hb); (try clear hb2); (try clear hk); (try clear hi); (try clear ho0); have hcz25_0 : w24.cell? ⟨gb179, 0, none⟩ = some (.int .i64 a1_0) := (blk_cell BK179.out 0).trans rfl; have hcz25_1 : w24.cell? ⟨gb179, 1, none⟩ = some (.int .i64 a1_1) := (blk_cell BK179.out 1).trans rfl; have hcz25_2 : w24.cell? ⟨gb179, 2, none⟩ = some (.int .i64 a1_2) := (blk_cell BK179.out 2).trans rfl; have hcz25_3 : w24.cell? ⟨gb179, 3, none⟩ = some (.int .i64 a1_3) := (blk_cell BK179.out 3).trans rfl; have hcz25_4 : w24.cell? ⟨gb179, 4, none⟩ = some (.int .i64 a1_4) := (blk_cell BK179.out 4).trans rfl; have hfz25_0 := blk_frozen BK179.out 0; have hfz25_1 := blk_frozen BK179.out 1; have hfz25_2 := blk_frozen BK179.out 2; have hfz25_3 := blk_frozen BK179.out 3; have hfz25_4 := blk_frozen BK179.out 4) | (go_at_call 29; (with_reducible refine (decoupageref28_Draw.calls kj2 _ _ l0 a1_0 a1_1 a1_2 a1_3 a1_4 t191 _ ?side1 ?side2 A19.out).mono ?_); (case side1 => repeat (first | exact (Kd.C_below HR0.out HB.out) | (with_reducible refine Kd.C_alloc ?_ _) | (with_reducible refine Kd.C_drewN ?_ _) | (with_reducible refine Kd.C_drew ?_))); (case side2 => exact HC0.out); rintro e w26 ⟨v192, rfl, ho0, hb⟩; have n0_ := Aside0.mk (Kd.R_elder' (by (with_reducible repeat (first | apply Kd.R_alloc | apply Kd.R_drewN | apply Kd.R_drew)); exact HO189.out) (Kd.R_base ho0) hb); have n1_ := Aside0.mk (Kd.R_lower (Kd.R_new' ho0 (Kd.R_lt (by (with_reducible repeat (first | apply Kd.R_alloc | apply Kd.R_drewN | apply Kd.R_drew)); exact HO189.out))) (below_size (by repeat (first | (with_reducible first | exact HB.out | apply below_alloc | apply pw_below_drewN | apply below_drew1 | refine below_set ?_ GE179.out) | exact HB.out)))); have n2_ := Aside0.mk (blk_below (g := gb179) (o := .cells #[.int .i64 a1_0, .int .i64 a1_1, .int .i64 a1_2, .int .i64 a1_3, .int .i64 a1_4] 44 (0, 0)) (by (with_reducible repeat (first | refine blk_drewN ?_ _ | refine blk_drew ?_ | refine blk_alloc ?_ _)); exact BK179.out) hb); have n3_ := Aside0.mk (below_step (by repeat (first | (with_reducible first | exact HB.out | apply below_alloc | apply pw_below_drewN | apply below_drew1 | refine below_set ?_ GE179.out) | exact HB.out)) hb); clear HO189; clear BK179; clear HB; have HO189 := n0_; have HO193 := n1_; have BK179 := n2_; have HB := n3_; clear n0_ n1_ n2_ n3_; (try clear hb); (try clear hb2); (try clear hk); (try clear hi); (try clear ho0))))
            (try simp only [Act.put, List.setIfInBounds_toArray, List.set_cons_zero, List.set_cons_succ])
            go_cut [58] (fun v58 wc => ∃ (kq : Nat) (x58_19 : Bool), v58 = .bool x58_19 ∧ Aside0 (decoupagelaw28_RasterDraws.j1 kq t187 t191 x58_19 = some r) ∧ Aside0 (kq ≤ kj2) ∧ Aside0 (Kd.R (Kd.int .i64) 2 wc w.heap.size (fun k_ => some k_ ≠ (v192 : Value).ownBlock) v188 t187) ∧ Aside0 (Kd.R (Kd.int .i64) 2 wc w.heap.size (fun k_ => some k_ ≠ (v188 : Value).ownBlock) v192 t191) ∧ Aside0 (wc.heap[gb179]? = some (.cells #[.int .i64 a1_0, .int .i64 a1_1, .int .i64 a1_2, .int .i64 a1_3, .int .i64 a1_4] 44 (0, 0))) ∧ Aside0 (Below w.heap.size w wc))
            case first =>
              have H := HC20.out
              clear HC20
              by_cases c27 : t190 = 0
              · rw [if_pos c27] at H
                have c27b0 : (t190 == 0) = true := beq_iff_eq.mpr c27
                have c27b1 : (t190 != 0) = false := bne_eq_false_iff_eq.mpr c27
                clear c27
                (first | rw [c27b0] | (simp only [i64_w, i32_w]; rw [c27b0]) | skip)
                have H' := Aside0.mk H
                clear H
                obtain ⟨Ao28, co28, eo28⟩ := Kd.R_slice HO189.out
                subst eo28
                obtain ⟨Ao29, co29, eo29⟩ := Kd.R_slice HO193.out
                subst eo29
                go_wp2
                repeat (go_quiet (fail); try go_wp2)
                go_meet
                case rel => exact ⟨_, (((t187.length : Int) != (t191.length : Int))), (by first | rfl | (simp; done) | (simp [*]; done)), H', ⟨by have := HJ2.out; first | omega | exact Nat.le_refl _⟩, ⟨by (with_reducible repeat (first | apply Kd.R_alloc | apply Kd.R_drewN | apply Kd.R_drew)); exact Kd.R_mono HO189.out (fun _ hk => hk.2)⟩, ⟨by (with_reducible repeat (first | apply Kd.R_alloc | apply Kd.R_drewN | apply Kd.R_drew)); exact Kd.R_mono HO193.out (fun _ hk => hk.2)⟩, ⟨by (with_reducible repeat (first | refine blk_drewN ?_ _ | refine blk_drew ?_ | refine blk_alloc ?_ _)); exact BK179.out⟩, ⟨by repeat (first | (with_reducible first | exact HB.out | apply below_alloc | apply pw_below_drewN | apply below_drew1 | refine below_set ?_ GE179.out) | exact HB.out)⟩⟩
              · rw [if_neg c27] at H
                have c27b0 : (t190 == 0) = false := beq_eq_false_iff_ne.mpr c27
                have c27b1 : (t190 != 0) = true := bne_iff_ne.mpr c27
                (first | rw [c27b0] | (simp only [i64_w, i32_w]; rw [c27b0]) | skip)
                have H' := Aside0.mk H
                clear H
                go_wp2
                repeat (go_quiet (fail); try go_wp2)
                go_meet
                case rel => exact ⟨_, (true), (by first | rfl | (simp; done) | (simp [*]; done)), H', ⟨by have := HJ2.out; first | omega | exact Nat.le_refl _⟩, ⟨by (with_reducible repeat (first | apply Kd.R_alloc | apply Kd.R_drewN | apply Kd.R_drew)); exact Kd.R_mono HO189.out (fun _ hk => hk.2)⟩, ⟨by (with_reducible repeat (first | apply Kd.R_alloc | apply Kd.R_drewN | apply Kd.R_drew)); exact Kd.R_mono HO193.out (fun _ hk => hk.2)⟩, ⟨by (with_reducible repeat (first | refine blk_drewN ?_ _ | refine blk_drew ?_ | refine blk_alloc ?_ _)); exact BK179.out⟩, ⟨by repeat (first | (with_reducible first | exact HB.out | apply below_alloc | apply pw_below_drewN | apply below_drew1 | refine below_set ?_ GE179.out) | exact HB.out)⟩⟩
            case rest =>
              clear HC20
              try clear c1
              try clear c2
              try clear p2
              try clear c6
              try clear p6
              try clear c7
              try clear c9
              try clear c13
              try clear c14
              try clear c14b0
              try clear c27
              try clear c27b0
              try clear c27b1
              try clear hcz15_0
              try clear hcz15_1
              try clear hcz15_2
              try clear hcz15_3
              try clear hcz15_4
              try clear hcz17_0
              try clear hcz17_1
              try clear hcz17_2
              try clear hcz17_3
              try clear hcz17_4
              try clear hcz21_0
              try clear hcz21_1
              try clear hcz21_2
              try clear hcz21_3
              try clear hcz21_4
              try clear hcz23_0
              try clear hcz23_1
              try clear hcz23_2
              try clear hcz23_3
              try clear hcz23_4
              try clear hcz25_0
              try clear hcz25_1
              try clear hcz25_2
              try clear hcz25_3
              try clear hcz25_4
              try clear hfz15_0
              try clear hfz15_1
              try clear hfz15_2
              try clear hfz15_3
              try clear hfz15_4
              try clear hfz17_0
              try clear hfz17_1
              try clear hfz17_2
              try clear hfz17_3
              try clear hfz17_4
              try clear hfz21_0
              try clear hfz21_1
              try clear hfz21_2
              try clear hfz21_3
              try clear hfz21_4
              try clear hfz23_0
              try clear hfz23_1
              try clear hfz23_2
              try clear hfz23_3
              try clear hfz23_4
              try clear hfz25_0
              try clear hfz25_1
              try clear hfz25_2
              try clear hfz25_3
              try clear hfz25_4
              try clear p2
              obtain ⟨kq, x58_19, rfl, HA, HJ19, HO_7, HO_9, BK179, HB⟩ := hcut
              cases kq with
              | zero => exact absurd HA.out (by simp [decoupagelaw28_RasterDraws.j1])
              | succ kj19 =>
                have H := HA.out
                clear HA
                simp only [decoupagelaw28_RasterDraws.j1] at H
                by_cases c30 : x58_19 = true
                · subst c30
                  have H1 : (some false) = some r := by rw [if_pos rfl] at H; exact H
                  clear H
                  have H := H1
                  clear H1
                  obtain rfl := Option.some.inj H
                  go_wp2
                  repeat (go_quiet (fail); try go_wp2)
                  go_ret
                  exact ⟨by first | rfl | (simp [errW_none, errW_some] <;> rfl) | (simp [*, errW_none, errW_some] <;> rfl), by repeat (first | (with_reducible first | exact HB.out | apply below_alloc | apply pw_below_drewN | apply below_drew1 | refine below_set ?_ GE179.out) | exact HB.out)⟩
                · replace c30 := Bool.eq_false_iff.mpr c30
                  subst c30
                  have H1 : (decoupagelaw28_RasterDraws.l0 kj19 t187 t191 (t187.length : Int) 0) = some r := by rw [if_neg (show ¬ (false = true) by decide)] at H; exact H
                  clear H
                  have H := H1
                  clear H1
                  have H' := Aside0.mk H
                  clear H
                  obtain ⟨Ao31, co31, eo31⟩ := Kd.R_slice HO_7.out
                  subst eo31
                  go_wp2
                  repeat (go_quiet (fail); try go_wp2)
                  go_loopg [61] kj19 (fun kq v61 w' => ∃ (x61_3 : Int), v61 = .int .i64 x61_3 ∧ Aside0 (decoupagelaw28_RasterDraws.l0 kq t187 t191 (t187.length : Int) x61_3 = some r) ∧ Aside0 (kq ≤ kj19) ∧ Aside0 (Kd.R (Kd.int .i64) 2 w' w.heap.size (fun k_ => some k_ ≠ (v192 : Value).ownBlock) (.slice Ao31 t187.length co31) t187) ∧ Aside0 (Kd.R (Kd.int .i64) 2 w' w.heap.size (fun k_ => some k_ ≠ ((.slice Ao31 t187.length co31) : Value).ownBlock) v192 t191) ∧ Aside0 (w'.heap[gb179]? = some (.cells #[.int .i64 a1_0, .int .i64 a1_1, .int .i64 a1_2, .int .i64 a1_3, .int .i64 a1_4] 44 (0, 0))) ∧ Aside0 (Below w.heap.size w w'))
                  case atStart => exact ⟨(0), (by first | rfl | (simp; done) | (simp [*]; done)), H', ⟨Nat.le_refl _⟩, ⟨by (with_reducible repeat (first | apply Kd.R_alloc | apply Kd.R_drewN | apply Kd.R_drew)); exact HO_7.out⟩, ⟨by (with_reducible repeat (first | apply Kd.R_alloc | apply Kd.R_drewN | apply Kd.R_drew)); exact HO_9.out⟩, ⟨by (with_reducible repeat (first | refine blk_drewN ?_ _ | refine blk_drew ?_ | refine blk_alloc ?_ _)); exact BK179.out⟩, ⟨by repeat (first | (with_reducible first | exact HB.out | apply below_alloc | apply pw_below_drewN | apply below_drew1 | refine below_set ?_ GE179.out) | exact HB.out)⟩⟩
                  case round =>
                    clear H'
                    try clear c1
                    try clear c2
                    try clear p2
                    try clear c3
                    try clear c6
                    try clear p6
                    try clear c7
                    try clear c9
                    try clear c13
                    try clear c14
                    try clear c14b0
                    try clear c27
                    try clear c27b0
                    try clear c27b1
                    try clear c30
                    try clear hcz15_0
                    try clear hcz15_1
                    try clear hcz15_2
                    try clear hcz15_3
                    try clear hcz15_4
                    try clear hcz17_0
                    try clear hcz17_1
                    try clear hcz17_2
                    try clear hcz17_3
                    try clear hcz17_4
                    try clear hcz21_0
                    try clear hcz21_1
                    try clear hcz21_2
                    try clear hcz21_3
                    try clear hcz21_4
                    try clear hcz23_0
                    try clear hcz23_1
                    try clear hcz23_2
                    try clear hcz23_3
                    try clear hcz23_4
                    try clear hcz25_0
                    try clear hcz25_1
                    try clear hcz25_2
                    try clear hcz25_3
                    try clear hcz25_4
                    try clear hfz15_0
                    try clear hfz15_1
                    try clear hfz15_2
                    try clear hfz15_3
                    try clear hfz15_4
                    try clear hfz17_0
                    try clear hfz17_1
                    try clear hfz17_2
                    try clear hfz17_3
                    try clear hfz17_4
                    try clear hfz21_0
                    try clear hfz21_1
                    try clear hfz21_2
                    try clear hfz21_3
                    try clear hfz21_4
                    try clear hfz23_0
                    try clear hfz23_1
                    try clear hfz23_2
                    try clear hfz23_3
                    try clear hfz23_4
                    try clear hfz25_0
                    try clear hfz25_1
                    try clear hfz25_2
                    try clear hfz25_3
                    try clear hfz25_4
                    try clear p2
                    try clear p6
                    obtain ⟨x61_3, rfl, HA, HK3, HO_7, HO_9, BK179, HB⟩ := hrel
                    cases gk with
                    | zero => exact absurd HA.out (by simp [decoupagelaw28_RasterDraws.l0])
                    | succ k3 =>
                      have H := HA.out
                      clear HA
                      simp only [decoupagelaw28_RasterDraws.l0] at H
                      by_cases c32 : x61_3 < (t187.length : Int)
                      · rw [if_pos c32] at H
                        have c32b0 : decide (x61_3 < (t187.length : Int)) = true := decide_eq_true c32
                        clear c32
                        by_cases c33 : 0 ≤ x61_3
                        · rw [if_pos c33] at H
                          have c33b0 : decide (0 ≤ x61_3) = true := decide_eq_true c33
                          clear c33
                          by_cases c34 : x61_3 < (t187.length : Int)
                          · rw [if_pos c34] at H
                            have c34b0 : decide (x61_3 < (t187.length : Int)) = true := decide_eq_true c34
                            clear c34
                            by_cases c35 : x61_3 < (t191.length : Int)
                            · rw [if_pos c35] at H
                              have c35b0 : decide (x61_3 < (t191.length : Int)) = true := decide_eq_true c35
                              clear c35
                              by_cases c36 : (rd t187 x61_3) = (rd t191 x61_3)
                              · rw [if_pos c36] at H
                                have c36b0 : ((rd t187 x61_3) == (rd t191 x61_3)) = true := beq_iff_eq.mpr c36
                                have c36b1 : ((rd t187 x61_3) != (rd t191 x61_3)) = false := bne_eq_false_iff_eq.mpr c36
                                clear c36
                                have H' := Aside0.mk H
                                clear H
                                have p194 : 0 ≤ (x61_3 : Int) := of_decide_eq_true (by first | (with_reducible assumption) | assumption)
                                have q194 : x61_3 < (t187.length : Int) := of_decide_eq_true (by first | (with_reducible assumption) | assumption)
                                obtain ⟨ad194, e194, hx194_0⟩ := Kd.at_int (Kd.R_reads' HO_7.out).2.2 x61_3 p194 q194
                                cases e194
                                replace p194 := eq_true p194
                                replace q194 := eq_true q194
                                obtain ⟨Ao37, co37, eo37⟩ := Kd.R_slice HO_9.out
                                subst eo37
                                have p195 : 0 ≤ (x61_3 : Int) := of_decide_eq_true (by first | (with_reducible assumption) | assumption)
                                have q195 : x61_3 < (t191.length : Int) := of_decide_eq_true (by first | (with_reducible assumption) | assumption)
                                obtain ⟨ad195, e195, hx195_0⟩ := Kd.at_int (Kd.R_reads' HO_9.out).2.2 x61_3 p195 q195
                                cases e195
                                replace p195 := eq_true p195
                                replace q195 := eq_true q195
                                go_wp2
                                repeat (go_quiet (fail); try go_wp2)
                                go_roundg k3
                                case measure => have := HJ2.out; have := HJ19.out; have := HK3.out; omega
                                case rel => exact ⟨(wrap64 (x61_3 + 1)), (by first | rfl | (simp; done) | (simp [*]; done)), H', ⟨by have := HJ2.out; have := HJ19.out; have := HK3.out; omega⟩, ⟨by (with_reducible repeat (first | apply Kd.R_alloc | apply Kd.R_drewN | apply Kd.R_drew)); exact HO_7.out⟩, ⟨by (with_reducible repeat (first | apply Kd.R_alloc | apply Kd.R_drewN | apply Kd.R_drew)); exact HO_9.out⟩, ⟨by (with_reducible repeat (first | refine blk_drewN ?_ _ | refine blk_drew ?_ | refine blk_alloc ?_ _)); exact BK179.out⟩, ⟨by repeat (first | (with_reducible first | exact HB.out | apply below_alloc | apply pw_below_drewN | apply below_drew1 | refine below_set ?_ GE179.out) | exact HB.out)⟩⟩
                              · rw [if_neg c36] at H
                                have c36b0 : ((rd t187 x61_3) == (rd t191 x61_3)) = false := beq_eq_false_iff_ne.mpr c36
                                have c36b1 : ((rd t187 x61_3) != (rd t191 x61_3)) = true := bne_iff_ne.mpr c36
                                obtain rfl := Option.some.inj H
                                have p194 : 0 ≤ (x61_3 : Int) := of_decide_eq_true (by first | (with_reducible assumption) | assumption)
                                have q194 : x61_3 < (t187.length : Int) := of_decide_eq_true (by first | (with_reducible assumption) | assumption)
                                obtain ⟨ad194, e194, hx194_0⟩ := Kd.at_int (Kd.R_reads' HO_7.out).2.2 x61_3 p194 q194
                                cases e194
                                replace p194 := eq_true p194
                                replace q194 := eq_true q194
                                obtain ⟨Ao38, co38, eo38⟩ := Kd.R_slice HO_9.out
                                subst eo38
                                have p195 : 0 ≤ (x61_3 : Int) := of_decide_eq_true (by first | (with_reducible assumption) | assumption)
                                have q195 : x61_3 < (t191.length : Int) := of_decide_eq_true (by first | (with_reducible assumption) | assumption)
                                obtain ⟨ad195, e195, hx195_0⟩ := Kd.at_int (Kd.R_reads' HO_9.out).2.2 x61_3 p195 q195
                                cases e195
                                replace p195 := eq_true p195
                                replace q195 := eq_true q195
                                go_wp2
                                repeat (go_quiet (fail); try go_wp2)
                                go_ret
                                exact ⟨by first | rfl | (simp [errW_none, errW_some] <;> rfl) | (simp [*, errW_none, errW_some] <;> rfl), by repeat (first | (with_reducible first | exact HB.out | apply below_alloc | apply pw_below_drewN | apply below_drew1 | refine below_set ?_ GE179.out) | exact HB.out)⟩
                            · rw [if_neg c35] at H
                              exact absurd H (by simp)
                          · rw [if_neg c34] at H
                            exact absurd H (by simp)
                        · rw [if_neg c33] at H
                          exact absurd H (by simp)
                      · rw [if_neg c32] at H
                        have c32b0 : decide (x61_3 < (t187.length : Int)) = false := decide_eq_false c32
                        clear c32
                        obtain rfl := Option.some.inj H
                        go_wp2
                        repeat (go_quiet (fail); try go_wp2)
                        go_ret
                        exact ⟨by first | rfl | (simp [errW_none, errW_some] <;> rfl) | (simp [*, errW_none, errW_some] <;> rfl), by repeat (first | (with_reducible first | exact HB.out | apply below_alloc | apply pw_below_drewN | apply below_drew1 | refine below_set ?_ GE179.out) | exact HB.out)⟩
        · replace c13 := Bool.eq_false_iff.mpr c13
          subst c13
          have H1 : ((raster_Draw.f kj2 l0 a1_0 a1_1 a1_2 a1_3 a1_4).bind fun bt183 => (if bt183.2 = 1 then (some ((bt183.1.length : Int) == 0)) else (some false))) = some r := by rw [if_neg (show ¬ (false = true) by decide)] at H; exact H
          clear H
          have H := H1
          clear H1
          replace H := Option.bind_eq_some_iff.mp H
          obtain ⟨⟨t183, t186⟩, A390, H⟩ := H
          replace H : (if t186 = 1 then (some ((t183.length : Int) == 0)) else (some false)) = some r := H
          have A39 := Aside0.mk A390
          clear A390
          by_cases c40 : t186 = 1
          · rw [if_pos c40] at H
            have c40b0 : (t186 == 1) = true := beq_iff_eq.mpr c40
            have c40b1 : (t186 != 1) = false := bne_eq_false_iff_eq.mpr c40
            clear c40
            obtain rfl := Option.some.inj H
            have hcz41_0 : wc.cell? ⟨gb179, 0, none⟩ = some (.int .i64 a1_0) := (blk_cell BK179.out 0).trans rfl
            have hcz41_1 : wc.cell? ⟨gb179, 1, none⟩ = some (.int .i64 a1_1) := (blk_cell BK179.out 1).trans rfl
            have hcz41_2 : wc.cell? ⟨gb179, 2, none⟩ = some (.int .i64 a1_2) := (blk_cell BK179.out 2).trans rfl
            have hcz41_3 : wc.cell? ⟨gb179, 3, none⟩ = some (.int .i64 a1_3) := (blk_cell BK179.out 3).trans rfl
            have hcz41_4 : wc.cell? ⟨gb179, 4, none⟩ = some (.int .i64 a1_4) := (blk_cell BK179.out 4).trans rfl
            have hfz41_0 := blk_frozen BK179.out 0
            have hfz41_1 := blk_frozen BK179.out 1
            have hfz41_2 := blk_frozen BK179.out 2
            have hfz41_3 := blk_frozen BK179.out 3
            have hfz41_4 := blk_frozen BK179.out 4
            go_wp2_with (first | (go_at_call 27; (with_reducible refine (decoupageref28_Right.calls a1_0 a1_1 a1_2 a1_3 a1_4 false _ A12.out).mono ?_); rintro e w42 ⟨rfl, hb⟩; have n0_ := Aside0.mk (blk_below (g := gb179) (o := .cells #[.int .i64 a1_0, .int .i64 a1_1, .int .i64 a1_2, .int .i64 a1_3, .int .i64 a1_4] 44 (0, 0)) (by (with_reducible repeat (first | refine blk_drewN ?_ _ | refine blk_drew ?_ | refine blk_alloc ?_ _)); exact BK179.out) hb); have n1_ := Aside0.mk (below_step (by repeat (first | (with_reducible first | exact HB.out | apply below_alloc | apply pw_below_drewN | apply below_drew1 | refine below_set ?_ GE179.out) | exact HB.out)) hb); clear BK179; clear HB; have BK179 := n0_; have HB := n1_; clear n0_ n1_; (try clear hb); (try clear hb2); (try clear hk); (try clear hi); have hcz43_0 : w42.cell? ⟨gb179, 0, none⟩ = some (.int .i64 a1_0) := (blk_cell BK179.out 0).trans rfl; have hcz43_1 : w42.cell? ⟨gb179, 1, none⟩ = some (.int .i64 a1_1) := (blk_cell BK179.out 1).trans rfl; have hcz43_2 : w42.cell? ⟨gb179, 2, none⟩ = some (.int .i64 a1_2) := (blk_cell BK179.out 2).trans rfl; have hcz43_3 : w42.cell? ⟨gb179, 3, none⟩ = some (.int .i64 a1_3) := (blk_cell BK179.out 3).trans rfl; have hcz43_4 : w42.cell? ⟨gb179, 4, none⟩ = some (.int .i64 a1_4) := (blk_cell BK179.out 4).trans rfl; have hfz43_0 := blk_frozen BK179.out 0; have hfz43_1 := blk_frozen BK179.out 1; have hfz43_2 := blk_frozen BK179.out 2; have hfz43_3 := blk_frozen BK179.out 3; have hfz43_4 := blk_frozen BK179.out 4) | (go_at_call 28; (with_reducible refine (raster_Draw.calls kj2 _ _ l0 a1_0 a1_1 a1_2 a1_3 a1_4 t183 t186 _ ?side1 ?side2 A39.out).mono ?_); (case side1 => repeat (first | exact (Kd.C_below HR0.out HB.out) | (with_reducible refine Kd.C_alloc ?_ _) | (with_reducible refine Kd.C_drewN ?_ _) | (with_reducible refine Kd.C_drew ?_))); (case side2 => exact HC0.out); rintro e w44 ⟨v184, rfl, ho0, hb⟩; have n0_ := Aside0.mk (Kd.R_lower ho0 (below_size (by repeat (first | (with_reducible first | exact HB.out | apply below_alloc | apply pw_below_drewN | apply below_drew1 | refine below_set ?_ GE179.out) | exact HB.out)))); have n1_ := Aside0.mk (blk_below (g := gb179) (o := .cells #[.int .i64 a1_0, .int .i64 a1_1, .int .i64 a1_2, .int .i64 a1_3, .int .i64 a1_4] 44 (0, 0)) (by (with_reducible repeat (first | refine blk_drewN ?_ _ | refine blk_drew ?_ | refine blk_alloc ?_ _)); exact BK179.out) hb); have n2_ := Aside0.mk (below_step (by repeat (first | (with_reducible first | exact HB.out | apply below_alloc | apply pw_below_drewN | apply below_drew1 | refine below_set ?_ GE179.out) | exact HB.out)) hb); clear BK179; clear HB; have HO185 := n0_; have BK179 := n1_; have HB := n2_; clear n0_ n1_ n2_; (try clear hb); (try clear hb2); (try clear hk); (try clear hi); (try clear ho0); obtain ⟨Ao45, co45, eo45⟩ := Kd.R_slice HO185.out; subst eo45))
            repeat (go_quiet (first | (go_at_call 27; (with_reducible refine (decoupageref28_Right.calls a1_0 a1_1 a1_2 a1_3 a1_4 false _ A12.out).mono ?_); rintro e w42 ⟨rfl, hb⟩; have n0_ := Aside0.mk (blk_below (g := gb179) (o := .cells #[.int .i64 a1_0, .int .i64 a1_1, .int .i64 a1_2, .int .i64 a1_3, .int .i64 a1_4] 44 (0, 0)) (by (with_reducible repeat (first | refine blk_drewN ?_ _ | refine blk_drew ?_ | refine blk_alloc ?_ _)); exact BK179.out) hb); have n1_ := Aside0.mk (below_step (by repeat (first | (with_reducible first | exact HB.out | apply below_alloc | apply pw_below_drewN | apply below_drew1 | refine below_set ?_ GE179.out) | exact HB.out)) hb); clear BK179; clear HB; have BK179 := n0_; have HB := n1_; clear n0_ n1_; (try clear hb); (try clear hb2); (try clear hk); (try clear hi); have hcz43_0 : w42.cell? ⟨gb179, 0, none⟩ = some (.int .i64 a1_0) := (blk_cell BK179.out 0).trans rfl; have hcz43_1 : w42.cell? ⟨gb179, 1, none⟩ = some (.int .i64 a1_1) := (blk_cell BK179.out 1).trans rfl; have hcz43_2 : w42.cell? ⟨gb179, 2, none⟩ = some (.int .i64 a1_2) := (blk_cell BK179.out 2).trans rfl; have hcz43_3 : w42.cell? ⟨gb179, 3, none⟩ = some (.int .i64 a1_3) := (blk_cell BK179.out 3).trans rfl; have hcz43_4 : w42.cell? ⟨gb179, 4, none⟩ = some (.int .i64 a1_4) := (blk_cell BK179.out 4).trans rfl; have hfz43_0 := blk_frozen BK179.out 0; have hfz43_1 := blk_frozen BK179.out 1; have hfz43_2 := blk_frozen BK179.out 2; have hfz43_3 := blk_frozen BK179.out 3; have hfz43_4 := blk_frozen BK179.out 4) | (go_at_call 28; (with_reducible refine (raster_Draw.calls kj2 _ _ l0 a1_0 a1_1 a1_2 a1_3 a1_4 t183 t186 _ ?side1 ?side2 A39.out).mono ?_); (case side1 => repeat (first | exact (Kd.C_below HR0.out HB.out) | (with_reducible refine Kd.C_alloc ?_ _) | (with_reducible refine Kd.C_drewN ?_ _) | (with_reducible refine Kd.C_drew ?_))); (case side2 => exact HC0.out); rintro e w44 ⟨v184, rfl, ho0, hb⟩; have n0_ := Aside0.mk (Kd.R_lower ho0 (below_size (by repeat (first | (with_reducible first | exact HB.out | apply below_alloc | apply pw_below_drewN | apply below_drew1 | refine below_set ?_ GE179.out) | exact HB.out)))); have n1_ := Aside0.mk (blk_below (g := gb179) (o := .cells #[.int .i64 a1_0, .int .i64 a1_1, .int .i64 a1_2, .int .i64 a1_3, .int .i64 a1_4] 44 (0, 0)) (by (with_reducible repeat (first | refine blk_drewN ?_ _ | refine blk_drew ?_ | refine blk_alloc ?_ _)); exact BK179.out) hb); have n2_ := Aside0.mk (below_step (by repeat (first | (with_reducible first | exact HB.out | apply below_alloc | apply pw_below_drewN | apply below_drew1 | refine below_set ?_ GE179.out) | exact HB.out)) hb); clear BK179; clear HB; have HO185 := n0_; have BK179 := n1_; have HB := n2_; clear n0_ n1_ n2_; (try clear hb); (try clear hb2); (try clear hk); (try clear hi); (try clear ho0); obtain ⟨Ao45, co45, eo45⟩ := Kd.R_slice HO185.out; subst eo45)); try go_wp2_with (first | (go_at_call 27; (with_reducible refine (decoupageref28_Right.calls a1_0 a1_1 a1_2 a1_3 a1_4 false _ A12.out).mono ?_); rintro e w42 ⟨rfl, hb⟩; have n0_ := Aside0.mk (blk_below (g := gb179) (o := .cells #[.int .i64 a1_0, .int .i64 a1_1, .int .i64 a1_2, .int .i64 a1_3, .int .i64 a1_4] 44 (0, 0)) (by (with_reducible repeat (first | refine blk_drewN ?_ _ | refine blk_drew ?_ | refine blk_alloc ?_ _)); exact BK179.out) hb); have n1_ := Aside0.mk (below_step (by repeat (first | (with_reducible first | exact HB.out | apply below_alloc | apply pw_below_drewN | apply below_drew1 | refine below_set ?_ GE179.out) | exact HB.out)) hb); clear BK179; clear HB; have BK179 := n0_; have HB := n1_; clear n0_ n1_; (try clear hb); (try clear hb2); (try clear hk); (try clear hi); have hcz43_0 : w42.cell? ⟨gb179, 0, none⟩ = some (.int .i64 a1_0) := (blk_cell BK179.out 0).trans rfl; have hcz43_1 : w42.cell? ⟨gb179, 1, none⟩ = some (.int .i64 a1_1) := (blk_cell BK179.out 1).trans rfl; have hcz43_2 : w42.cell? ⟨gb179, 2, none⟩ = some (.int .i64 a1_2) := (blk_cell BK179.out 2).trans rfl; have hcz43_3 : w42.cell? ⟨gb179, 3, none⟩ = some (.int .i64 a1_3) := (blk_cell BK179.out 3).trans rfl; have hcz43_4 : w42.cell? ⟨gb179, 4, none⟩ = some (.int .i64 a1_4) := (blk_cell BK179.out 4).trans rfl; have hfz43_0 := blk_frozen BK179.out 0; have hfz43_1 := blk_frozen BK179.out 1; have hfz43_2 := blk_frozen BK179.out 2; have hfz43_3 := blk_frozen BK179.out 3; have hfz43_4 := blk_frozen BK179.out 4) | (go_at_call 28; (with_reducible refine (raster_Draw.calls kj2 _ _ l0 a1_0 a1_1 a1_2 a1_3 a1_4 t183 t186 _ ?side1 ?side2 A39.out).mono ?_); (case side1 => repeat (first | exact (Kd.C_below HR0.out HB.out) | (with_reducible refine Kd.C_alloc ?_ _) | (with_reducible refine Kd.C_drewN ?_ _) | (with_reducible refine Kd.C_drew ?_))); (case side2 => exact HC0.out); rintro e w44 ⟨v184, rfl, ho0, hb⟩; have n0_ := Aside0.mk (Kd.R_lower ho0 (below_size (by repeat (first | (with_reducible first | exact HB.out | apply below_alloc | apply pw_below_drewN | apply below_drew1 | refine below_set ?_ GE179.out) | exact HB.out)))); have n1_ := Aside0.mk (blk_below (g := gb179) (o := .cells #[.int .i64 a1_0, .int .i64 a1_1, .int .i64 a1_2, .int .i64 a1_3, .int .i64 a1_4] 44 (0, 0)) (by (with_reducible repeat (first | refine blk_drewN ?_ _ | refine blk_drew ?_ | refine blk_alloc ?_ _)); exact BK179.out) hb); have n2_ := Aside0.mk (below_step (by repeat (first | (with_reducible first | exact HB.out | apply below_alloc | apply pw_below_drewN | apply below_drew1 | refine below_set ?_ GE179.out) | exact HB.out)) hb); clear BK179; clear HB; have HO185 := n0_; have BK179 := n1_; have HB := n2_; clear n0_ n1_ n2_; (try clear hb); (try clear hb2); (try clear hk); (try clear hi); (try clear ho0); obtain ⟨Ao45, co45, eo45⟩ := Kd.R_slice HO185.out; subst eo45)))
            go_ret
            exact ⟨by first | rfl | (simp [errW_none, errW_some] <;> rfl) | (simp [*, errW_none, errW_some] <;> rfl), by repeat (first | (with_reducible first | exact HB.out | apply below_alloc | apply pw_below_drewN | apply below_drew1 | refine below_set ?_ GE179.out) | exact HB.out)⟩
          · rw [if_neg c40] at H
            have c40b0 : (t186 == 1) = false := beq_eq_false_iff_ne.mpr c40
            have c40b1 : (t186 != 1) = true := bne_iff_ne.mpr c40
            obtain rfl := Option.some.inj H
            have hcz46_0 : wc.cell? ⟨gb179, 0, none⟩ = some (.int .i64 a1_0) := (blk_cell BK179.out 0).trans rfl
            have hcz46_1 : wc.cell? ⟨gb179, 1, none⟩ = some (.int .i64 a1_1) := (blk_cell BK179.out 1).trans rfl
            have hcz46_2 : wc.cell? ⟨gb179, 2, none⟩ = some (.int .i64 a1_2) := (blk_cell BK179.out 2).trans rfl
            have hcz46_3 : wc.cell? ⟨gb179, 3, none⟩ = some (.int .i64 a1_3) := (blk_cell BK179.out 3).trans rfl
            have hcz46_4 : wc.cell? ⟨gb179, 4, none⟩ = some (.int .i64 a1_4) := (blk_cell BK179.out 4).trans rfl
            have hfz46_0 := blk_frozen BK179.out 0
            have hfz46_1 := blk_frozen BK179.out 1
            have hfz46_2 := blk_frozen BK179.out 2
            have hfz46_3 := blk_frozen BK179.out 3
            have hfz46_4 := blk_frozen BK179.out 4
            go_wp2_with (first | (go_at_call 27; (with_reducible refine (decoupageref28_Right.calls a1_0 a1_1 a1_2 a1_3 a1_4 false _ A12.out).mono ?_); rintro e w47 ⟨rfl, hb⟩; have n0_ := Aside0.mk (blk_below (g := gb179) (o := .cells #[.int .i64 a1_0, .int .i64 a1_1, .int .i64 a1_2, .int .i64 a1_3, .int .i64 a1_4] 44 (0, 0)) (by (with_reducible repeat (first | refine blk_drewN ?_ _ | refine blk_drew ?_ | refine blk_alloc ?_ _)); exact BK179.out) hb); have n1_ := Aside0.mk (below_step (by repeat (first | (with_reducible first | exact HB.out | apply below_alloc | apply pw_below_drewN | apply below_drew1 | refine below_set ?_ GE179.out) | exact HB.out)) hb); clear BK179; clear HB; have BK179 := n0_; have HB := n1_; clear n0_ n1_; (try clear hb); (try clear hb2); (try clear hk); (try clear hi); have hcz48_0 : w47.cell? ⟨gb179, 0, none⟩ = some (.int .i64 a1_0) := (blk_cell BK179.out 0).trans rfl; have hcz48_1 : w47.cell? ⟨gb179, 1, none⟩ = some (.int .i64 a1_1) := (blk_cell BK179.out 1).trans rfl; have hcz48_2 : w47.cell? ⟨gb179, 2, none⟩ = some (.int .i64 a1_2) := (blk_cell BK179.out 2).trans rfl; have hcz48_3 : w47.cell? ⟨gb179, 3, none⟩ = some (.int .i64 a1_3) := (blk_cell BK179.out 3).trans rfl; have hcz48_4 : w47.cell? ⟨gb179, 4, none⟩ = some (.int .i64 a1_4) := (blk_cell BK179.out 4).trans rfl; have hfz48_0 := blk_frozen BK179.out 0; have hfz48_1 := blk_frozen BK179.out 1; have hfz48_2 := blk_frozen BK179.out 2; have hfz48_3 := blk_frozen BK179.out 3; have hfz48_4 := blk_frozen BK179.out 4) | (go_at_call 28; (with_reducible refine (raster_Draw.calls kj2 _ _ l0 a1_0 a1_1 a1_2 a1_3 a1_4 t183 t186 _ ?side1 ?side2 A39.out).mono ?_); (case side1 => repeat (first | exact (Kd.C_below HR0.out HB.out) | (with_reducible refine Kd.C_alloc ?_ _) | (with_reducible refine Kd.C_drewN ?_ _) | (with_reducible refine Kd.C_drew ?_))); (case side2 => exact HC0.out); rintro e w49 ⟨v184, rfl, ho0, hb⟩; have n0_ := Aside0.mk (Kd.R_lower ho0 (below_size (by repeat (first | (with_reducible first | exact HB.out | apply below_alloc | apply pw_below_drewN | apply below_drew1 | refine below_set ?_ GE179.out) | exact HB.out)))); have n1_ := Aside0.mk (blk_below (g := gb179) (o := .cells #[.int .i64 a1_0, .int .i64 a1_1, .int .i64 a1_2, .int .i64 a1_3, .int .i64 a1_4] 44 (0, 0)) (by (with_reducible repeat (first | refine blk_drewN ?_ _ | refine blk_drew ?_ | refine blk_alloc ?_ _)); exact BK179.out) hb); have n2_ := Aside0.mk (below_step (by repeat (first | (with_reducible first | exact HB.out | apply below_alloc | apply pw_below_drewN | apply below_drew1 | refine below_set ?_ GE179.out) | exact HB.out)) hb); clear BK179; clear HB; have HO185 := n0_; have BK179 := n1_; have HB := n2_; clear n0_ n1_ n2_; (try clear hb); (try clear hb2); (try clear hk); (try clear hi); (try clear ho0)))
            repeat (go_quiet (first | (go_at_call 27; (with_reducible refine (decoupageref28_Right.calls a1_0 a1_1 a1_2 a1_3 a1_4 false _ A12.out).mono ?_); rintro e w47 ⟨rfl, hb⟩; have n0_ := Aside0.mk (blk_below (g := gb179) (o := .cells #[.int .i64 a1_0, .int .i64 a1_1, .int .i64 a1_2, .int .i64 a1_3, .int .i64 a1_4] 44 (0, 0)) (by (with_reducible repeat (first | refine blk_drewN ?_ _ | refine blk_drew ?_ | refine blk_alloc ?_ _)); exact BK179.out) hb); have n1_ := Aside0.mk (below_step (by repeat (first | (with_reducible first | exact HB.out | apply below_alloc | apply pw_below_drewN | apply below_drew1 | refine below_set ?_ GE179.out) | exact HB.out)) hb); clear BK179; clear HB; have BK179 := n0_; have HB := n1_; clear n0_ n1_; (try clear hb); (try clear hb2); (try clear hk); (try clear hi); have hcz48_0 : w47.cell? ⟨gb179, 0, none⟩ = some (.int .i64 a1_0) := (blk_cell BK179.out 0).trans rfl; have hcz48_1 : w47.cell? ⟨gb179, 1, none⟩ = some (.int .i64 a1_1) := (blk_cell BK179.out 1).trans rfl; have hcz48_2 : w47.cell? ⟨gb179, 2, none⟩ = some (.int .i64 a1_2) := (blk_cell BK179.out 2).trans rfl; have hcz48_3 : w47.cell? ⟨gb179, 3, none⟩ = some (.int .i64 a1_3) := (blk_cell BK179.out 3).trans rfl; have hcz48_4 : w47.cell? ⟨gb179, 4, none⟩ = some (.int .i64 a1_4) := (blk_cell BK179.out 4).trans rfl; have hfz48_0 := blk_frozen BK179.out 0; have hfz48_1 := blk_frozen BK179.out 1; have hfz48_2 := blk_frozen BK179.out 2; have hfz48_3 := blk_frozen BK179.out 3; have hfz48_4 := blk_frozen BK179.out 4) | (go_at_call 28; (with_reducible refine (raster_Draw.calls kj2 _ _ l0 a1_0 a1_1 a1_2 a1_3 a1_4 t183 t186 _ ?side1 ?side2 A39.out).mono ?_); (case side1 => repeat (first | exact (Kd.C_below HR0.out HB.out) | (with_reducible refine Kd.C_alloc ?_ _) | (with_reducible refine Kd.C_drewN ?_ _) | (with_reducible refine Kd.C_drew ?_))); (case side2 => exact HC0.out); rintro e w49 ⟨v184, rfl, ho0, hb⟩; have n0_ := Aside0.mk (Kd.R_lower ho0 (below_size (by repeat (first | (with_reducible first | exact HB.out | apply below_alloc | apply pw_below_drewN | apply below_drew1 | refine below_set ?_ GE179.out) | exact HB.out)))); have n1_ := Aside0.mk (blk_below (g := gb179) (o := .cells #[.int .i64 a1_0, .int .i64 a1_1, .int .i64 a1_2, .int .i64 a1_3, .int .i64 a1_4] 44 (0, 0)) (by (with_reducible repeat (first | refine blk_drewN ?_ _ | refine blk_drew ?_ | refine blk_alloc ?_ _)); exact BK179.out) hb); have n2_ := Aside0.mk (below_step (by repeat (first | (with_reducible first | exact HB.out | apply below_alloc | apply pw_below_drewN | apply below_drew1 | refine below_set ?_ GE179.out) | exact HB.out)) hb); clear BK179; clear HB; have HO185 := n0_; have BK179 := n1_; have HB := n2_; clear n0_ n1_ n2_; (try clear hb); (try clear hb2); (try clear hk); (try clear hi); (try clear ho0))); try go_wp2_with (first | (go_at_call 27; (with_reducible refine (decoupageref28_Right.calls a1_0 a1_1 a1_2 a1_3 a1_4 false _ A12.out).mono ?_); rintro e w47 ⟨rfl, hb⟩; have n0_ := Aside0.mk (blk_below (g := gb179) (o := .cells #[.int .i64 a1_0, .int .i64 a1_1, .int .i64 a1_2, .int .i64 a1_3, .int .i64 a1_4] 44 (0, 0)) (by (with_reducible repeat (first | refine blk_drewN ?_ _ | refine blk_drew ?_ | refine blk_alloc ?_ _)); exact BK179.out) hb); have n1_ := Aside0.mk (below_step (by repeat (first | (with_reducible first | exact HB.out | apply below_alloc | apply pw_below_drewN | apply below_drew1 | refine below_set ?_ GE179.out) | exact HB.out)) hb); clear BK179; clear HB; have BK179 := n0_; have HB := n1_; clear n0_ n1_; (try clear hb); (try clear hb2); (try clear hk); (try clear hi); have hcz48_0 : w47.cell? ⟨gb179, 0, none⟩ = some (.int .i64 a1_0) := (blk_cell BK179.out 0).trans rfl; have hcz48_1 : w47.cell? ⟨gb179, 1, none⟩ = some (.int .i64 a1_1) := (blk_cell BK179.out 1).trans rfl; have hcz48_2 : w47.cell? ⟨gb179, 2, none⟩ = some (.int .i64 a1_2) := (blk_cell BK179.out 2).trans rfl; have hcz48_3 : w47.cell? ⟨gb179, 3, none⟩ = some (.int .i64 a1_3) := (blk_cell BK179.out 3).trans rfl; have hcz48_4 : w47.cell? ⟨gb179, 4, none⟩ = some (.int .i64 a1_4) := (blk_cell BK179.out 4).trans rfl; have hfz48_0 := blk_frozen BK179.out 0; have hfz48_1 := blk_frozen BK179.out 1; have hfz48_2 := blk_frozen BK179.out 2; have hfz48_3 := blk_frozen BK179.out 3; have hfz48_4 := blk_frozen BK179.out 4) | (go_at_call 28; (with_reducible refine (raster_Draw.calls kj2 _ _ l0 a1_0 a1_1 a1_2 a1_3 a1_4 t183 t186 _ ?side1 ?side2 A39.out).mono ?_); (case side1 => repeat (first | exact (Kd.C_below HR0.out HB.out) | (with_reducible refine Kd.C_alloc ?_ _) | (with_reducible refine Kd.C_drewN ?_ _) | (with_reducible refine Kd.C_drew ?_))); (case side2 => exact HC0.out); rintro e w49 ⟨v184, rfl, ho0, hb⟩; have n0_ := Aside0.mk (Kd.R_lower ho0 (below_size (by repeat (first | (with_reducible first | exact HB.out | apply below_alloc | apply pw_below_drewN | apply below_drew1 | refine below_set ?_ GE179.out) | exact HB.out)))); have n1_ := Aside0.mk (blk_below (g := gb179) (o := .cells #[.int .i64 a1_0, .int .i64 a1_1, .int .i64 a1_2, .int .i64 a1_3, .int .i64 a1_4] 44 (0, 0)) (by (with_reducible repeat (first | refine blk_drewN ?_ _ | refine blk_drew ?_ | refine blk_alloc ?_ _)); exact BK179.out) hb); have n2_ := Aside0.mk (below_step (by repeat (first | (with_reducible first | exact HB.out | apply below_alloc | apply pw_below_drewN | apply below_drew1 | refine below_set ?_ GE179.out) | exact HB.out)) hb); clear BK179; clear HB; have HO185 := n0_; have BK179 := n1_; have HB := n2_; clear n0_ n1_ n2_; (try clear hb); (try clear hb2); (try clear hk); (try clear hi); (try clear ho0))))
            go_ret
            exact ⟨by first | rfl | (simp [errW_none, errW_some] <;> rfl) | (simp [*, errW_none, errW_some] <;> rfl), by repeat (first | (with_reducible first | exact HB.out | apply below_alloc | apply pw_below_drewN | apply below_drew1 | refine below_set ?_ GE179.out) | exact HB.out)⟩

end Go.Proofs.Ytppklhfiajjhmaa.PRasterDraws
