-- PRINTED BY print.sh 35421559b90ae4d0a3588c463048766b98c2df88dd9212a6774a882060cdf62d: not written by this session
import Derived.Test.YtmfmpfneekngaaaPRectCutsx0
import Derived.Test.YtmfmpfneekngaaaPRectCutsx2
import Derived.Test.YtmfmpfneekngaaaPRectCutsx4
namespace Go.Proofs.Ytmfmpfneekngaaa.PRectCuts
open Go.RowKit Go.Proofs.YtmfmpfneekngaaaW.PrintWords Go.Proofs.YtmfmpfneekngaaaW.PrintLast Go.Proofs.YtmfmpfneekngaaaW.PrintMore
attribute [local go_sem] max2_int min2_int max_two min_two max_three min_three max_four min_four   -- for this text's walks alone
set_option linter.unusedVariables false
set_option linter.unusedSimpArgs false

/-! ### decoupagelaw02_RectCuts: function 7 -/
mutual
def decoupagelaw02_RectCuts.l0 : Nat → Int → Int → List (S30) → Int → Int → Int → Int → Int → Int → Int → Int → Int → Int → Int → Option (Bool)
  | 0, _, _, _, _, _, _, _, _, _, _, _, _, _, _ => none
  | k + 1, x2, x3, x9, x10, x19, x20, x169000, x169001, x169002, x169003, x170000, x170001, x170002, x170003 => if x20 < x19 then (if 0 ≤ x20 then (if x20 < (x9.length : Int) then ((rect_Empty.f ((rd_T30 x9 x20).f0) ((rd_T30 x9 x20).f1) ((rd_T30 x9 x20).f2) ((rd_T30 x9 x20).f3)).bind fun t175 => (if t175 = true then (some false) else ((rect_Holds.f ((rd_T30 x9 x20).f0) ((rd_T30 x9 x20).f1) ((rd_T30 x9 x20).f2) ((rd_T30 x9 x20).f3) x2 x3).bind fun t177 => (if t177 = true then (decoupagelaw02_RectCuts.l0 k x2 x3 x9 (wrap64 (x10 + 1)) x19 (wrap64 (x20 + 1)) x169000 x169001 x169002 x169003 x170000 x170001 x170002 x170003) else (decoupagelaw02_RectCuts.l0 k x2 x3 x9 x10 x19 (wrap64 (x20 + 1)) x169000 x169001 x169002 x169003 x170000 x170001 x170002 x170003))))) else (none)) else (none)) else ((decoupageref02_Holds.f x169000 x169001 x169002 x169003 x2 x3).bind fun t178 => (if t178 = true then ((decoupageref02_Holds.f x170000 x170001 x170002 x170003 x2 x3).bind fun t179 => (decoupagelaw02_RectCuts.j1 k x9 x10 0 (!t179) x169000 x169001 x169002 x169003 x170000 x170001 x170002 x170003)) else (decoupagelaw02_RectCuts.j1 k x9 x10 0 false x169000 x169001 x169002 x169003 x170000 x170001 x170002 x170003)))
def decoupagelaw02_RectCuts.j1 : Nat → List (S30) → Int → Int → Bool → Int → Int → Int → Int → Int → Int → Int → Int → Option (Bool)
  | 0, _, _, _, _, _, _, _, _, _, _, _, _ => none
  | k + 1, x9, x10, x12, x48, x169000, x169001, x169002, x169003, x170000, x170001, x170002, x170003 => if x48 = true then (if x10 = 1 then ((decoupageref02_Cut.f k x169000 x169001 x169002 x169003 x170000 x170001 x170002 x170003).bind fun t180 => ((decoupageref02_Same.f k x9 t180).bind fun t183 => (some t183))) else (some false)) else (if x10 = x12 then ((decoupageref02_Cut.f k x169000 x169001 x169002 x169003 x170000 x170001 x170002 x170003).bind fun t184 => ((decoupageref02_Same.f k x9 t184).bind fun t187 => (some t187))) else (some false))
end
def decoupagelaw02_RectCuts.f (k : Nat) (a0_0 : Int) (a0_1 : Int) (a0_2 : Int) (a0_3 : Int) (a1_0 : Int) (a1_1 : Int) (a1_2 : Int) (a1_3 : Int) (a2 : Int) (a3 : Int) : Option (Bool) := (decoupagelaw02_awake.f k).bind fun t170 => (if t170 = true then ((rect_Cut.f k a0_0 a0_1 a0_2 a0_3 a1_0 a1_1 a1_2 a1_3).bind fun t171 => (decoupagelaw02_RectCuts.l0 k a2 a3 t171 0 (t171.length : Int) 0 a0_0 a0_1 a0_2 a0_3 a1_0 a1_1 a1_2 a1_3)) else (some false))
theorem decoupagelaw02_RectCuts.mono_l : ∀ k, (∀ y0 y1 y2 y3 y4 y5 y6 y7 y8 y9 y10 y11 y12 y13, LeO (decoupagelaw02_RectCuts.l0 k y0 y1 y2 y3 y4 y5 y6 y7 y8 y9 y10 y11 y12 y13) (decoupagelaw02_RectCuts.l0 (k + 1) y0 y1 y2 y3 y4 y5 y6 y7 y8 y9 y10 y11 y12 y13)) ∧ (∀ y0 y1 y2 y3 y4 y5 y6 y7 y8 y9 y10 y11, LeO (decoupagelaw02_RectCuts.j1 k y0 y1 y2 y3 y4 y5 y6 y7 y8 y9 y10 y11) (decoupagelaw02_RectCuts.j1 (k + 1) y0 y1 y2 y3 y4 y5 y6 y7 y8 y9 y10 y11))
  | 0 => ⟨fun _ _ _ _ _ _ _ _ _ _ _ _ _ _ r h => by simp [decoupagelaw02_RectCuts.l0] at h, fun _ _ _ _ _ _ _ _ _ _ _ _ r h => by simp [decoupagelaw02_RectCuts.j1] at h⟩
  | k + 1 => by
    obtain ⟨ih0, ih1⟩ := decoupagelaw02_RectCuts.mono_l k
    refine ⟨?_, ?_⟩
    · intro y0 y1 y2 y3 y4 y5 y6 y7 y8 y9 y10 y11 y12 y13
      unfold decoupagelaw02_RectCuts.l0
      repeat' first
      | (with_reducible exact ih0 _ _ _ _ _ _ _ _ _ _ _ _ _ _)
      | (with_reducible exact ih1 _ _ _ _ _ _ _ _ _ _ _ _)
      | (with_reducible exact decoupagelaw02_awake.mono _)
      | (with_reducible exact decoupageref02_Cut.mono _ _ _ _ _ _ _ _ _)
      | (with_reducible exact decoupageref02_Same.mono _ _ _)
      | (with_reducible exact rect_Cut.mono _ _ _ _ _ _ _ _ _)
      | (with_reducible exact LeO.refl _)
      | (with_reducible exact LeO.none _)
      | (with_reducible refine LeO.ite ?_ ?_)
      | (with_reducible refine LeO.bind ?_ (fun _ => ?_))
      | exact ih0 _ _ _ _ _ _ _ _ _ _ _ _ _ _
      | exact ih1 _ _ _ _ _ _ _ _ _ _ _ _
      | exact decoupagelaw02_awake.mono _
      | exact decoupageref02_Cut.mono _ _ _ _ _ _ _ _ _
      | exact decoupageref02_Same.mono _ _ _
      | exact rect_Cut.mono _ _ _ _ _ _ _ _ _
      | exact LeO.none _
      | refine LeO.ite ?_ ?_
      | refine LeO.bind ?_ (fun _ => ?_)
    · intro y0 y1 y2 y3 y4 y5 y6 y7 y8 y9 y10 y11
      unfold decoupagelaw02_RectCuts.j1
      repeat' first
      | (with_reducible exact ih0 _ _ _ _ _ _ _ _ _ _ _ _ _ _)
      | (with_reducible exact ih1 _ _ _ _ _ _ _ _ _ _ _ _)
      | (with_reducible exact decoupagelaw02_awake.mono _)
      | (with_reducible exact decoupageref02_Cut.mono _ _ _ _ _ _ _ _ _)
      | (with_reducible exact decoupageref02_Same.mono _ _ _)
      | (with_reducible exact rect_Cut.mono _ _ _ _ _ _ _ _ _)
      | (with_reducible exact LeO.refl _)
      | (with_reducible exact LeO.none _)
      | (with_reducible refine LeO.ite ?_ ?_)
      | (with_reducible refine LeO.bind ?_ (fun _ => ?_))
      | exact ih0 _ _ _ _ _ _ _ _ _ _ _ _ _ _
      | exact ih1 _ _ _ _ _ _ _ _ _ _ _ _
      | exact decoupagelaw02_awake.mono _
      | exact decoupageref02_Cut.mono _ _ _ _ _ _ _ _ _
      | exact decoupageref02_Same.mono _ _ _
      | exact rect_Cut.mono _ _ _ _ _ _ _ _ _
      | exact LeO.none _
      | refine LeO.ite ?_ ?_
      | refine LeO.bind ?_ (fun _ => ?_)
theorem decoupagelaw02_RectCuts.mono : ∀ a0 a1 a2 a3 a4 a5 a6 a7 a8 a9 k, LeO (decoupagelaw02_RectCuts.f k a0 a1 a2 a3 a4 a5 a6 a7 a8 a9) (decoupagelaw02_RectCuts.f (k + 1) a0 a1 a2 a3 a4 a5 a6 a7 a8 a9) := by
  intro a0 a1 a2 a3 a4 a5 a6 a7 a8 a9 k
  obtain ⟨ih0, ih1⟩ := decoupagelaw02_RectCuts.mono_l k
  unfold decoupagelaw02_RectCuts.f
  repeat' first
      | (with_reducible exact ih0 _ _ _ _ _ _ _ _ _ _ _ _ _ _)
      | (with_reducible exact ih1 _ _ _ _ _ _ _ _ _ _ _ _)
      | (with_reducible exact decoupagelaw02_awake.mono _)
      | (with_reducible exact decoupageref02_Cut.mono _ _ _ _ _ _ _ _ _)
      | (with_reducible exact decoupageref02_Same.mono _ _ _)
      | (with_reducible exact rect_Cut.mono _ _ _ _ _ _ _ _ _)
      | (with_reducible exact LeO.refl _)
      | (with_reducible exact LeO.none _)
      | (with_reducible refine LeO.ite ?_ ?_)
      | (with_reducible refine LeO.bind ?_ (fun _ => ?_))
      | exact ih0 _ _ _ _ _ _ _ _ _ _ _ _ _ _
      | exact ih1 _ _ _ _ _ _ _ _ _ _ _ _
      | exact decoupagelaw02_awake.mono _
      | exact decoupageref02_Cut.mono _ _ _ _ _ _ _ _ _
      | exact decoupageref02_Same.mono _ _ _
      | exact rect_Cut.mono _ _ _ _ _ _ _ _ _
      | exact LeO.none _
      | refine LeO.ite ?_ ?_
      | refine LeO.bind ?_ (fun _ => ?_)
set_option maxHeartbeats 8000000 in
set_option maxRecDepth 100000 in
theorem decoupagelaw02_RectCuts.calls (k : Nat) (a0_0 : Int) (a0_1 : Int) (a0_2 : Int) (a0_3 : Int) (a1_0 : Int) (a1_1 : Int) (a1_2 : Int) (a1_3 : Int) (a2 : Int) (a3 : Int) (r : Bool) (w : World) (h : decoupagelaw02_RectCuts.f k a0_0 a0_1 a0_2 a0_3 a1_0 a1_1 a1_2 a1_3 a2 a3 = some r) :
    Calls Try.prog 7 #[.agg #[.int .i64 a0_0, .int .i64 a0_1, .int .i64 a0_2, .int .i64 a0_3], .agg #[.int .i64 a1_0, .int .i64 a1_1, .int .i64 a1_2, .int .i64 a1_3], .int .i64 a2, .int .i64 a3] w fun e w' => e = .returned (.bool r) ∧ Below w.heap.size w w' := by
  have hu30 := Try.underlying30
  have HB := Aside0.mk (Below.refl w.heap.size w)
  have H : ((decoupagelaw02_awake.f k).bind fun t170 => (if t170 = true then ((rect_Cut.f k a0_0 a0_1 a0_2 a0_3 a1_0 a1_1 a1_2 a1_3).bind fun t171 => (decoupagelaw02_RectCuts.l0 k a2 a3 t171 0 (t171.length : Int) 0 a0_0 a0_1 a0_2 a0_3 a1_0 a1_1 a1_2 a1_3)) else (some false))) = some r := h
  clear h
  replace H := Option.bind_eq_some_iff.mp H
  obtain ⟨t170, A50, H⟩ := H
  replace H : (if t170 = true then ((rect_Cut.f k a0_0 a0_1 a0_2 a0_3 a1_0 a1_1 a1_2 a1_3).bind fun t171 => (decoupagelaw02_RectCuts.l0 k a2 a3 t171 0 (t171.length : Int) 0 a0_0 a0_1 a0_2 a0_3 a1_0 a1_1 a1_2 a1_3)) else (some false)) = some r := H
  have A5 := Aside0.mk A50
  clear A50
  by_cases c6 : t170 = true
  · subst c6
    have H1 : ((rect_Cut.f k a0_0 a0_1 a0_2 a0_3 a1_0 a1_1 a1_2 a1_3).bind fun t171 => (decoupagelaw02_RectCuts.l0 k a2 a3 t171 0 (t171.length : Int) 0 a0_0 a0_1 a0_2 a0_3 a1_0 a1_1 a1_2 a1_3)) = some r := by rw [if_pos rfl] at H; exact H
    clear H
    have H := H1
    clear H1
    replace H := Option.bind_eq_some_iff.mp H
    obtain ⟨t171, A70, H⟩ := H
    replace H : (decoupagelaw02_RectCuts.l0 k a2 a3 t171 0 (t171.length : Int) 0 a0_0 a0_1 a0_2 a0_3 a1_0 a1_1 a1_2 a1_3) = some r := H
    have A7 := Aside0.mk A70
    clear A70
    have H' := Aside0.mk H
    clear H
    go_enter Try.func7, Try.ntmps7
    go_wp2_with (first | ((with_reducible refine gate_dst (N := 4) rfl ?_); refine box_event ?hg (N := 4) ?hd (cs := #[.int .i64 a0_0, .int .i64 a0_1, .int .i64 a0_2, .int .i64 a0_3]) (t := 30) ?hr ?_; (case hd => rfl); (case hg => rfl); (case hr => first | (go_simp; done) | (go_simp; rfl)); intro gb168 hg w8 hbox hb; have n0_ := Aside0.mk (below_step (by repeat (first | (with_reducible first | exact HB.out | apply below_alloc | apply pw_below_drewN | apply below_drew1) | exact HB.out)) hb); have n1_ := Aside0.mk (hbox); have n2_ := Aside0.mk ((by rw [hg]; exact (below_size (by repeat (first | (with_reducible first | exact HB.out | apply below_alloc | apply pw_below_drewN | apply below_drew1) | exact HB.out))) : w.heap.size ≤ gb168)); have n3_ := Aside0.mk ((by rw [hg]; exact (below_size (by repeat (first | (with_reducible first | exact HB.out | apply below_alloc | apply pw_below_drewN | apply below_drew1) | exact HB.out))) : w.heap.size ≤ gb168)); clear HB; have HB := n0_; have BK168 := n1_; have GW168 := n2_; have GE168 := n3_; clear n0_ n1_ n2_ n3_; clear hb hbox hg) | ((with_reducible refine gate_dst (N := 5) rfl ?_); refine box_event ?hg (N := 5) ?hd (cs := #[.int .i64 a1_0, .int .i64 a1_1, .int .i64 a1_2, .int .i64 a1_3]) (t := 30) ?hr ?_; (case hd => rfl); (case hg => rfl); (case hr => first | (go_simp; done) | (go_simp; rfl)); intro gb169 hg w9 hbox hb; have n0_ := Aside0.mk (blk_below (g := gb168) (o := .cells #[.int .i64 a0_0, .int .i64 a0_1, .int .i64 a0_2, .int .i64 a0_3] 30 (0, 0)) (by (with_reducible repeat (first | refine blk_drewN ?_ _ | refine blk_drew ?_ | refine blk_alloc ?_ _)); exact BK168.out) hb); have n1_ := Aside0.mk (below_step (by repeat (first | (with_reducible first | exact HB.out | apply below_alloc | apply pw_below_drewN | apply below_drew1 | refine below_set ?_ GE168.out) | exact HB.out)) hb); have n2_ := Aside0.mk (hbox); have n3_ := Aside0.mk ((by rw [hg]; exact (below_size (by repeat (first | (with_reducible first | exact HB.out | apply below_alloc | apply pw_below_drewN | apply below_drew1 | refine below_set ?_ GE168.out) | exact HB.out))) : w.heap.size ≤ gb169)); have n4_ := Aside0.mk ((by rw [hg]; exact (below_size (by repeat (first | (with_reducible first | exact HB.out | apply below_alloc | apply pw_below_drewN | apply below_drew1 | refine below_set ?_ GE168.out) | exact HB.out))) : w.heap.size ≤ gb169)); have n5_ := Aside0.mk ((by rw [hg]; exact Nat.ne_of_lt (blk_lt (g := gb168) (o := .cells #[.int .i64 a0_0, .int .i64 a0_1, .int .i64 a0_2, .int .i64 a0_3] 30 (0, 0)) (by (with_reducible repeat (first | refine blk_drewN ?_ _ | refine blk_drew ?_ | refine blk_alloc ?_ _)); exact BK168.out)) : gb168 ≠ gb169)); have n6_ := Aside0.mk ((by rw [hg]; exact Nat.ne_of_gt (blk_lt (g := gb168) (o := .cells #[.int .i64 a0_0, .int .i64 a0_1, .int .i64 a0_2, .int .i64 a0_3] 30 (0, 0)) (by (with_reducible repeat (first | refine blk_drewN ?_ _ | refine blk_drew ?_ | refine blk_alloc ?_ _)); exact BK168.out)) : gb169 ≠ gb168)); clear BK168; clear HB; have BK168 := n0_; have HB := n1_; have BK169 := n2_; have GW169 := n3_; have GE169 := n4_; have NB168_169 := n5_; have NB169_168 := n6_; clear n0_ n1_ n2_ n3_ n4_ n5_ n6_; clear hb hbox hg) | ((with_reducible refine gate_callee (f := 21) rfl ?_); refine goesL_ (some 13) rfl rfl Try.func21 (by kernel_rfl) rfl #[] rfl (by (try simp only [List.map_toArray, List.map_cons, List.map_nil]); first | done | rfl | (simp only [List.length_drop, List.length_take]; rfl)) ?_; (with_reducible refine (decoupagelaw02_awake.calls k  true _ A5.out).mono ?_); rintro e w10 ⟨rfl, hb⟩; refine ⟨_, rfl, ?_⟩; have n0_ := Aside0.mk (blk_below (g := gb168) (o := .cells #[.int .i64 a0_0, .int .i64 a0_1, .int .i64 a0_2, .int .i64 a0_3] 30 (0, 0)) (by (with_reducible repeat (first | refine blk_drewN ?_ _ | refine blk_drew ?_ | refine blk_alloc ?_ _)); exact BK168.out) hb); have n1_ := Aside0.mk (blk_below (g := gb169) (o := .cells #[.int .i64 a1_0, .int .i64 a1_1, .int .i64 a1_2, .int .i64 a1_3] 30 (0, 0)) (by (with_reducible repeat (first | refine blk_drewN ?_ _ | refine blk_drew ?_ | refine blk_alloc ?_ _)); exact BK169.out) hb); have n2_ := Aside0.mk (below_step (by repeat (first | (with_reducible first | exact HB.out | apply below_alloc | apply pw_below_drewN | apply below_drew1 | refine below_set ?_ GE168.out | refine below_set ?_ GE169.out) | exact HB.out)) hb); clear BK168; clear BK169; clear HB; have BK168 := n0_; have BK169 := n1_; have HB := n2_; clear n0_ n1_ n2_; (try clear hb); (try clear hb2); (try clear hk); (try clear hi); have hnb11 := NB168_169.out; have hnc11 := NB169_168.out; have hcz12_0 : w10.cell? ⟨gb168, 0, none⟩ = some (.int .i64 a0_0) := (blk_cell BK168.out 0).trans rfl; have hcz12_1 : w10.cell? ⟨gb168, 1, none⟩ = some (.int .i64 a0_1) := (blk_cell BK168.out 1).trans rfl; have hcz12_2 : w10.cell? ⟨gb168, 2, none⟩ = some (.int .i64 a0_2) := (blk_cell BK168.out 2).trans rfl; have hcz12_3 : w10.cell? ⟨gb168, 3, none⟩ = some (.int .i64 a0_3) := (blk_cell BK168.out 3).trans rfl; have hfz12_0 := blk_frozen BK168.out 0; have hfz12_1 := blk_frozen BK168.out 1; have hfz12_2 := blk_frozen BK168.out 2; have hfz12_3 := blk_frozen BK168.out 3; have hcz13_0 : w10.cell? ⟨gb169, 0, none⟩ = some (.int .i64 a1_0) := (blk_cell BK169.out 0).trans rfl; have hcz13_1 : w10.cell? ⟨gb169, 1, none⟩ = some (.int .i64 a1_1) := (blk_cell BK169.out 1).trans rfl; have hcz13_2 : w10.cell? ⟨gb169, 2, none⟩ = some (.int .i64 a1_2) := (blk_cell BK169.out 2).trans rfl; have hcz13_3 : w10.cell? ⟨gb169, 3, none⟩ = some (.int .i64 a1_3) := (blk_cell BK169.out 3).trans rfl; have hfz13_0 := blk_frozen BK169.out 0; have hfz13_1 := blk_frozen BK169.out 1; have hfz13_2 := blk_frozen BK169.out 2; have hfz13_3 := blk_frozen BK169.out 3) | ((with_reducible refine gate_callee (f := 27) rfl ?_); refine goesL_ (some 17) rfl rfl Try.func27 (by kernel_rfl) rfl #[.agg #[.int .i64 a0_0, .int .i64 a0_1, .int .i64 a0_2, .int .i64 a0_3], .agg #[.int .i64 a1_0, .int .i64 a1_1, .int .i64 a1_2, .int .i64 a1_3]] rfl (by (try simp only [List.map_toArray, List.map_cons, List.map_nil]); first | done | rfl | (simp only [List.length_drop, List.length_take]; rfl)) ?_; (with_reducible refine (rect_Cut.calls k a0_0 a0_1 a0_2 a0_3 a1_0 a1_1 a1_2 a1_3 t171 _ A7.out).mono ?_); rintro e w14 ⟨v172, rfl, ho0, hb⟩; refine ⟨_, rfl, ?_⟩; have n0_ := Aside0.mk (Kd.R_lower (Kd.R_newB (Kd.R_newB ho0 (g := gb168) (o := .cells #[.int .i64 a0_0, .int .i64 a0_1, .int .i64 a0_2, .int .i64 a0_3] 30 (0, 0)) (by (with_reducible repeat (first | refine blk_drewN ?_ _ | refine blk_drew ?_ | refine blk_alloc ?_ _)); exact BK168.out)) (g := gb169) (o := .cells #[.int .i64 a1_0, .int .i64 a1_1, .int .i64 a1_2, .int .i64 a1_3] 30 (0, 0)) (by (with_reducible repeat (first | refine blk_drewN ?_ _ | refine blk_drew ?_ | refine blk_alloc ?_ _)); exact BK169.out)) (below_size (by repeat (first | (with_reducible first | exact HB.out | apply below_alloc | apply pw_below_drewN | apply below_drew1 | refine below_set ?_ GE168.out | refine below_set ?_ GE169.out) | exact HB.out)))); have n1_ := Aside0.mk (blk_below (g := gb168) (o := .cells #[.int .i64 a0_0, .int .i64 a0_1, .int .i64 a0_2, .int .i64 a0_3] 30 (0, 0)) (by (with_reducible repeat (first | refine blk_drewN ?_ _ | refine blk_drew ?_ | refine blk_alloc ?_ _)); exact BK168.out) hb); have n2_ := Aside0.mk (blk_below (g := gb169) (o := .cells #[.int .i64 a1_0, .int .i64 a1_1, .int .i64 a1_2, .int .i64 a1_3] 30 (0, 0)) (by (with_reducible repeat (first | refine blk_drewN ?_ _ | refine blk_drew ?_ | refine blk_alloc ?_ _)); exact BK169.out) hb); have n3_ := Aside0.mk (below_step (by repeat (first | (with_reducible first | exact HB.out | apply below_alloc | apply pw_below_drewN | apply below_drew1 | refine below_set ?_ GE168.out | refine below_set ?_ GE169.out) | exact HB.out)) hb); clear BK168; clear BK169; clear HB; have HO173 := n0_; have BK168 := n1_; have BK169 := n2_; have HB := n3_; clear n0_ n1_ n2_ n3_; (try clear hb); (try clear hb2); (try clear hk); (try clear hi); (try clear ho0); obtain ⟨Ao15, co15, eo15⟩ := Kd.R_slice HO173.out; subst eo15))
    go_loopg [10, 20] k (fun kq v10 v20 w' => ∃ (x10_1 : Int) (x20_1 : Int), v10 = .int .i64 x10_1 ∧ v20 = .int .i64 x20_1 ∧ Aside0 (decoupagelaw02_RectCuts.l0 kq a2 a3 t171 x10_1 (t171.length : Int) x20_1 a0_0 a0_1 a0_2 a0_3 a1_0 a1_1 a1_2 a1_3 = some r) ∧ Aside0 (kq ≤ k) ∧ Aside0 (Kd.R k30 30 w' w.heap.size (fun k_ => k_ ≠ gb168 ∧ k_ ≠ gb169) (.slice Ao15 t171.length co15) t171) ∧ Aside0 (w'.heap[gb168]? = some (.cells #[.int .i64 a0_0, .int .i64 a0_1, .int .i64 a0_2, .int .i64 a0_3] 30 (0, 0))) ∧ Aside0 (w'.heap[gb169]? = some (.cells #[.int .i64 a1_0, .int .i64 a1_1, .int .i64 a1_2, .int .i64 a1_3] 30 (0, 0))) ∧ Aside0 (Below w.heap.size w w'))
    case atStart => exact ⟨(0), (0), (by first | rfl | (simp; done) | (simp [*]; done)), (by first | rfl | (simp; done) | (simp [*]; done)), H', ⟨Nat.le_refl _⟩, ⟨by (with_reducible repeat (first | apply Kd.R_alloc | apply Kd.R_drewN | apply Kd.R_drew)); exact Kd.R_mono HO173.out (fun _ hk => ⟨hk.1.2, hk.2⟩)⟩, ⟨by (with_reducible repeat (first | refine blk_drewN ?_ _ | refine blk_drew ?_ | refine blk_alloc ?_ _)); exact BK168.out⟩, ⟨by (with_reducible repeat (first | refine blk_drewN ?_ _ | refine blk_drew ?_ | refine blk_alloc ?_ _)); exact BK169.out⟩, ⟨by repeat (first | (with_reducible first | exact HB.out | apply below_alloc | apply pw_below_drewN | apply below_drew1 | refine below_set ?_ GE168.out | refine below_set ?_ GE169.out) | exact HB.out)⟩⟩
    case round =>
      clear H'
      try clear c1
      try clear c2
      try clear p2
      try clear c6
      try clear c7
      try clear c11
      try clear hcz12_0
      try clear hcz12_1
      try clear hcz12_2
      try clear hcz12_3
      try clear hcz13_0
      try clear hcz13_1
      try clear hcz13_2
      try clear hcz13_3
      try clear hfz12_0
      try clear hfz12_1
      try clear hfz12_2
      try clear hfz12_3
      try clear hfz13_0
      try clear hfz13_1
      try clear hfz13_2
      try clear hfz13_3
      obtain ⟨x10_1, x20_1, rfl, rfl, HA, HK1, HO_9, BK168, BK169, HB⟩ := hrel
      cases gk with
      | zero => exact absurd HA.out (by simp [decoupagelaw02_RectCuts.l0])
      | succ k1 =>
        have H := HA.out
        clear HA
        simp only [decoupagelaw02_RectCuts.l0] at H
        by_cases c16 : x20_1 < (t171.length : Int)
        · rw [if_pos c16] at H
          have c16b0 : decide (x20_1 < (t171.length : Int)) = true := decide_eq_true c16
          clear c16
          by_cases c17 : 0 ≤ x20_1
          · rw [if_pos c17] at H
            have c17b0 : decide (0 ≤ x20_1) = true := decide_eq_true c17
            clear c17
            by_cases c18 : x20_1 < (t171.length : Int)
            · rw [if_pos c18] at H
              have c18b0 : decide (x20_1 < (t171.length : Int)) = true := decide_eq_true c18
              clear c18
              replace H := Option.bind_eq_some_iff.mp H
              obtain ⟨t175, A190, H⟩ := H
              replace H : (if t175 = true then (some false) else ((rect_Holds.f ((rd_T30 t171 x20_1).f0) ((rd_T30 t171 x20_1).f1) ((rd_T30 t171 x20_1).f2) ((rd_T30 t171 x20_1).f3) a2 a3).bind fun t177 => (if t177 = true then (decoupagelaw02_RectCuts.l0 k1 a2 a3 t171 (wrap64 (x10_1 + 1)) (t171.length : Int) (wrap64 (x20_1 + 1)) a0_0 a0_1 a0_2 a0_3 a1_0 a1_1 a1_2 a1_3) else (decoupagelaw02_RectCuts.l0 k1 a2 a3 t171 x10_1 (t171.length : Int) (wrap64 (x20_1 + 1)) a0_0 a0_1 a0_2 a0_3 a1_0 a1_1 a1_2 a1_3)))) = some r := H
              have A19 := Aside0.mk A190
              clear A190
              by_cases c20 : t175 = true
              · subst c20
                have H1 : (some false) = some r := by rw [if_pos rfl] at H; exact H
                clear H
                have H := H1
                clear H1
                obtain rfl := Option.some.inj H
                have p174 : 0 ≤ (x20_1 : Int) := of_decide_eq_true (by first | (with_reducible assumption) | assumption)
                have q174 : x20_1 < (t171.length : Int) := of_decide_eq_true (by first | (with_reducible assumption) | assumption)
                obtain ⟨ad174, e174, hx174_0, hx174_1, hx174_2, hx174_3⟩ := at_T30 (Kd.R_reads' HO_9.out).2.2 x20_1 p174 q174
                cases e174
                replace p174 := eq_true p174
                replace q174 := eq_true q174
                go_wp2_with (first | ((with_reducible refine gate_callee (f := 24) rfl ?_); refine goesL_ (some 27) rfl rfl Try.func24 (by kernel_rfl) rfl #[.agg #[.int .i64 ((rd_T30 t171 x20_1).f0), .int .i64 ((rd_T30 t171 x20_1).f1), .int .i64 ((rd_T30 t171 x20_1).f2), .int .i64 ((rd_T30 t171 x20_1).f3)]] rfl (by (try simp only [List.map_toArray, List.map_cons, List.map_nil]); first | done | rfl | (simp only [List.length_drop, List.length_take]; rfl)) ?_; (with_reducible refine (rect_Empty.calls ((rd_T30 t171 x20_1).f0) ((rd_T30 t171 x20_1).f1) ((rd_T30 t171 x20_1).f2) ((rd_T30 t171 x20_1).f3) true _ A19.out).mono ?_); rintro e w21 ⟨rfl, hb⟩; refine ⟨_, rfl, ?_⟩; have n0_ := Aside0.mk (Kd.R_below (by (with_reducible repeat (first | apply Kd.R_alloc | apply Kd.R_drewN | apply Kd.R_drew)); exact HO_9.out) hb); have n1_ := Aside0.mk (blk_below (g := gb168) (o := .cells #[.int .i64 a0_0, .int .i64 a0_1, .int .i64 a0_2, .int .i64 a0_3] 30 (0, 0)) (by (with_reducible repeat (first | refine blk_drewN ?_ _ | refine blk_drew ?_ | refine blk_alloc ?_ _)); exact BK168.out) hb); have n2_ := Aside0.mk (blk_below (g := gb169) (o := .cells #[.int .i64 a1_0, .int .i64 a1_1, .int .i64 a1_2, .int .i64 a1_3] 30 (0, 0)) (by (with_reducible repeat (first | refine blk_drewN ?_ _ | refine blk_drew ?_ | refine blk_alloc ?_ _)); exact BK169.out) hb); have n3_ := Aside0.mk (below_step (by repeat (first | (with_reducible first | exact HB.out | apply below_alloc | apply pw_below_drewN | apply below_drew1 | refine below_set ?_ GE168.out | refine below_set ?_ GE169.out) | exact HB.out)) hb); clear HO_9; clear BK168; clear BK169; clear HB; have HO_9 := n0_; have BK168 := n1_; have BK169 := n2_; have HB := n3_; clear n0_ n1_ n2_ n3_; (try clear hb); (try clear hb2); (try clear hk); (try clear hi)))
                go_ret
                exact ⟨by first | rfl | (simp [errW_none, errW_some] <;> rfl) | (simp [*, errW_none, errW_some] <;> rfl), by repeat (first | (with_reducible first | exact HB.out | apply below_alloc | apply pw_below_drewN | apply below_drew1 | refine below_set ?_ GE168.out | refine below_set ?_ GE169.out) | exact HB.out)⟩
              · replace c20 := Bool.eq_false_iff.mpr c20
                subst c20
                have H1 : ((rect_Holds.f ((rd_T30 t171 x20_1).f0) ((rd_T30 t171 x20_1).f1) ((rd_T30 t171 x20_1).f2) ((rd_T30 t171 x20_1).f3) a2 a3).bind fun t177 => (if t177 = true then (decoupagelaw02_RectCuts.l0 k1 a2 a3 t171 (wrap64 (x10_1 + 1)) (t171.length : Int) (wrap64 (x20_1 + 1)) a0_0 a0_1 a0_2 a0_3 a1_0 a1_1 a1_2 a1_3) else (decoupagelaw02_RectCuts.l0 k1 a2 a3 t171 x10_1 (t171.length : Int) (wrap64 (x20_1 + 1)) a0_0 a0_1 a0_2 a0_3 a1_0 a1_1 a1_2 a1_3))) = some r := by rw [if_neg (show ¬ (false = true) by decide)] at H; exact H
                clear H
                have H := H1
                clear H1
                replace H := Option.bind_eq_some_iff.mp H
                obtain ⟨t177, A220, H⟩ := H
                replace H : (if t177 = true then (decoupagelaw02_RectCuts.l0 k1 a2 a3 t171 (wrap64 (x10_1 + 1)) (t171.length : Int) (wrap64 (x20_1 + 1)) a0_0 a0_1 a0_2 a0_3 a1_0 a1_1 a1_2 a1_3) else (decoupagelaw02_RectCuts.l0 k1 a2 a3 t171 x10_1 (t171.length : Int) (wrap64 (x20_1 + 1)) a0_0 a0_1 a0_2 a0_3 a1_0 a1_1 a1_2 a1_3)) = some r := H
                have A22 := Aside0.mk A220
                clear A220
                by_cases c23 : t177 = true
                · subst c23
                  have H1 : (decoupagelaw02_RectCuts.l0 k1 a2 a3 t171 (wrap64 (x10_1 + 1)) (t171.length : Int) (wrap64 (x20_1 + 1)) a0_0 a0_1 a0_2 a0_3 a1_0 a1_1 a1_2 a1_3) = some r := by rw [if_pos rfl] at H; exact H
                  clear H
                  have H := H1
                  clear H1
                  have H' := Aside0.mk H
                  clear H
                  have p174 : 0 ≤ (x20_1 : Int) := of_decide_eq_true (by first | (with_reducible assumption) | assumption)
                  have q174 : x20_1 < (t171.length : Int) := of_decide_eq_true (by first | (with_reducible assumption) | assumption)
                  obtain ⟨ad174, e174, hx174_0, hx174_1, hx174_2, hx174_3⟩ := at_T30 (Kd.R_reads' HO_9.out).2.2 x20_1 p174 q174
                  cases e174
                  replace p174 := eq_true p174
                  replace q174 := eq_true q174
                  go_wp2_with (first | ((with_reducible refine gate_callee (f := 24) rfl ?_); refine goesL_ (some 27) rfl rfl Try.func24 (by kernel_rfl) rfl #[.agg #[.int .i64 ((rd_T30 t171 x20_1).f0), .int .i64 ((rd_T30 t171 x20_1).f1), .int .i64 ((rd_T30 t171 x20_1).f2), .int .i64 ((rd_T30 t171 x20_1).f3)]] rfl (by (try simp only [List.map_toArray, List.map_cons, List.map_nil]); first | done | rfl | (simp only [List.length_drop, List.length_take]; rfl)) ?_; (with_reducible refine (rect_Empty.calls ((rd_T30 t171 x20_1).f0) ((rd_T30 t171 x20_1).f1) ((rd_T30 t171 x20_1).f2) ((rd_T30 t171 x20_1).f3) false _ A19.out).mono ?_); rintro e w24 ⟨rfl, hb⟩; refine ⟨_, rfl, ?_⟩; have n0_ := Aside0.mk (Kd.R_below (by (with_reducible repeat (first | apply Kd.R_alloc | apply Kd.R_drewN | apply Kd.R_drew)); exact HO_9.out) hb); have n1_ := Aside0.mk (blk_below (g := gb168) (o := .cells #[.int .i64 a0_0, .int .i64 a0_1, .int .i64 a0_2, .int .i64 a0_3] 30 (0, 0)) (by (with_reducible repeat (first | refine blk_drewN ?_ _ | refine blk_drew ?_ | refine blk_alloc ?_ _)); exact BK168.out) hb); have n2_ := Aside0.mk (blk_below (g := gb169) (o := .cells #[.int .i64 a1_0, .int .i64 a1_1, .int .i64 a1_2, .int .i64 a1_3] 30 (0, 0)) (by (with_reducible repeat (first | refine blk_drewN ?_ _ | refine blk_drew ?_ | refine blk_alloc ?_ _)); exact BK169.out) hb); have n3_ := Aside0.mk (below_step (by repeat (first | (with_reducible first | exact HB.out | apply below_alloc | apply pw_below_drewN | apply below_drew1 | refine below_set ?_ GE168.out | refine below_set ?_ GE169.out) | exact HB.out)) hb); clear HO_9; clear BK168; clear BK169; clear HB; have HO_9 := n0_; have BK168 := n1_; have BK169 := n2_; have HB := n3_; clear n0_ n1_ n2_ n3_; (try clear hb); (try clear hb2); (try clear hk); (try clear hi); have p176 : 0 ≤ (x20_1 : Int) := of_decide_eq_true (by first | (with_reducible assumption) | assumption); have q176 : x20_1 < (t171.length : Int) := of_decide_eq_true (by first | (with_reducible assumption) | assumption); obtain ⟨ad176, e176, hx176_0, hx176_1, hx176_2, hx176_3⟩ := at_T30 (Kd.R_reads' HO_9.out).2.2 x20_1 p176 q176; obtain rfl : ad174 = ad176 := (by injection e176); replace p176 := eq_true p176; replace q176 := eq_true q176) | ((with_reducible refine gate_callee (f := 23) rfl ?_); refine goesL_ (some 34) rfl rfl Try.func23 (by kernel_rfl) rfl #[.agg #[.int .i64 ((rd_T30 t171 x20_1).f0), .int .i64 ((rd_T30 t171 x20_1).f1), .int .i64 ((rd_T30 t171 x20_1).f2), .int .i64 ((rd_T30 t171 x20_1).f3)], .int .i64 a2, .int .i64 a3] rfl (by (try simp only [List.map_toArray, List.map_cons, List.map_nil]); first | done | rfl | (simp only [List.length_drop, List.length_take]; rfl)) ?_; (with_reducible refine (rect_Holds.calls ((rd_T30 t171 x20_1).f0) ((rd_T30 t171 x20_1).f1) ((rd_T30 t171 x20_1).f2) ((rd_T30 t171 x20_1).f3) a2 a3 true _ A22.out).mono ?_); rintro e w25 ⟨rfl, hb⟩; refine ⟨_, rfl, ?_⟩; have n0_ := Aside0.mk (Kd.R_below (by (with_reducible repeat (first | apply Kd.R_alloc | apply Kd.R_drewN | apply Kd.R_drew)); exact HO_9.out) hb); have n1_ := Aside0.mk (blk_below (g := gb168) (o := .cells #[.int .i64 a0_0, .int .i64 a0_1, .int .i64 a0_2, .int .i64 a0_3] 30 (0, 0)) (by (with_reducible repeat (first | refine blk_drewN ?_ _ | refine blk_drew ?_ | refine blk_alloc ?_ _)); exact BK168.out) hb); have n2_ := Aside0.mk (blk_below (g := gb169) (o := .cells #[.int .i64 a1_0, .int .i64 a1_1, .int .i64 a1_2, .int .i64 a1_3] 30 (0, 0)) (by (with_reducible repeat (first | refine blk_drewN ?_ _ | refine blk_drew ?_ | refine blk_alloc ?_ _)); exact BK169.out) hb); have n3_ := Aside0.mk (below_step (by repeat (first | (with_reducible first | exact HB.out | apply below_alloc | apply pw_below_drewN | apply below_drew1 | refine below_set ?_ GE168.out | refine below_set ?_ GE169.out) | exact HB.out)) hb); clear HO_9; clear BK168; clear BK169; clear HB; have HO_9 := n0_; have BK168 := n1_; have BK169 := n2_; have HB := n3_; clear n0_ n1_ n2_ n3_; (try clear hb); (try clear hb2); (try clear hk); (try clear hi)))
                  go_roundg k1
                  case measure => have := HK1.out; omega
                  case rel => exact ⟨(wrap64 (x10_1 + 1)), (wrap64 (x20_1 + 1)), (by first | rfl | (simp; done) | (simp [*]; done)), (by first | rfl | (simp; done) | (simp [*]; done)), H', ⟨by have := HK1.out; omega⟩, ⟨by (with_reducible repeat (first | apply Kd.R_alloc | apply Kd.R_drewN | apply Kd.R_drew)); exact HO_9.out⟩, ⟨by (with_reducible repeat (first | refine blk_drewN ?_ _ | refine blk_drew ?_ | refine blk_alloc ?_ _)); exact BK168.out⟩, ⟨by (with_reducible repeat (first | refine blk_drewN ?_ _ | refine blk_drew ?_ | refine blk_alloc ?_ _)); exact BK169.out⟩, ⟨by repeat (first | (with_reducible first | exact HB.out | apply below_alloc | apply pw_below_drewN | apply below_drew1 | refine below_set ?_ GE168.out | refine below_set ?_ GE169.out) | exact HB.out)⟩⟩
                · replace c23 := Bool.eq_false_iff.mpr c23
                  subst c23
                  have H1 : (decoupagelaw02_RectCuts.l0 k1 a2 a3 t171 x10_1 (t171.length : Int) (wrap64 (x20_1 + 1)) a0_0 a0_1 a0_2 a0_3 a1_0 a1_1 a1_2 a1_3) = some r := by rw [if_neg (show ¬ (false = true) by decide)] at H; exact H
                  clear H
                  have H := H1
                  clear H1
                  have H' := Aside0.mk H
                  clear H
                  have p174 : 0 ≤ (x20_1 : Int) := of_decide_eq_true (by first | (with_reducible assumption) | assumption)
                  have q174 : x20_1 < (t171.length : Int) := of_decide_eq_true (by first | (with_reducible assumption) | assumption)
                  obtain ⟨ad174, e174, hx174_0, hx174_1, hx174_2, hx174_3⟩ := at_T30 (Kd.R_reads' HO_9.out).2.2 x20_1 p174 q174
                  cases e174
                  replace p174 := eq_true p174
                  replace q174 := eq_true q174
                  go_wp2_with (first | ((with_reducible refine gate_callee (f := 24) rfl ?_); refine goesL_ (some 27) rfl rfl Try.func24 (by kernel_rfl) rfl #[.agg #[.int .i64 ((rd_T30 t171 x20_1).f0), .int .i64 ((rd_T30 t171 x20_1).f1), .int .i64 ((rd_T30 t171 x20_1).f2), .int .i64 ((rd_T30 t171 x20_1).f3)]] rfl (by (try simp only [List.map_toArray, List.map_cons, List.map_nil]); first | done | rfl | (simp only [List.length_drop, List.length_take]; rfl)) ?_; (with_reducible refine (rect_Empty.calls ((rd_T30 t171 x20_1).f0) ((rd_T30 t171 x20_1).f1) ((rd_T30 t171 x20_1).f2) ((rd_T30 t171 x20_1).f3) false _ A19.out).mono ?_); rintro e w26 ⟨rfl, hb⟩; refine ⟨_, rfl, ?_⟩; have n0_ := Aside0.mk (Kd.R_below (by (with_reducible repeat (first | apply Kd.R_alloc | apply Kd.R_drewN | apply Kd.R_drew)); exact HO_9.out) hb); have n1_ := Aside0.mk (blk_below (g := gb168) (o := .cells #[.int .i64 a0_0, .int .i64 a0_1, .int .i64 a0_2, .int .i64 a0_3] 30 (0, 0)) (by (with_reducible repeat (first | refine blk_drewN ?_ _ | refine blk_drew ?_ | refine blk_alloc ?_ _)); exact BK168.out) hb); have n2_ := Aside0.mk (blk_below (g := gb169) (o := .cells #[.int .i64 a1_0, .int .i64 a1_1, .int .i64 a1_2, .int .i64 a1_3] 30 (0, 0)) (by (with_reducible repeat (first | refine blk_drewN ?_ _ | refine blk_drew ?_ | refine blk_alloc ?_ _)); exact BK169.out) hb); have n3_ := Aside0.mk (below_step (by repeat (first | (with_reducible first | exact HB.out | apply below_alloc | apply pw_below_drewN | apply below_drew1 | refine below_set ?_ GE168.out | refine below_set ?_ GE169.out) | exact HB.out)) hb); clear HO_9; clear BK168; clear BK169; clear HB; have HO_9 := n0_; have BK168 := n1_; have BK169 := n2_; have HB := n3_; clear n0_ n1_ n2_ n3_; (try clear hb); (try clear hb2); (try clear hk); (try clear hi); have p176 : 0 ≤ (x20_1 : Int) := of_decide_eq_true (by first | (with_reducible assumption) | assumption); have q176 : x20_1 < (t171.length : Int) := of_decide_eq_true (by first | (with_reducible assumption) | assumption); obtain ⟨ad176, e176, hx176_0, hx176_1, hx176_2, hx176_3⟩ := at_T30 (Kd.R_reads' HO_9.out).2.2 x20_1 p176 q176; obtain rfl : ad174 = ad176 := (by injection e176); replace p176 := eq_true p176; replace q176 := eq_true q176) | ((with_reducible refine gate_callee (f := 23) rfl ?_); refine goesL_ (some 34) rfl rfl Try.func23 (by kernel_rfl) rfl #[.agg #[.int .i64 ((rd_T30 t171 x20_1).f0), .int .i64 ((rd_T30 t171 x20_1).f1), .int .i64 ((rd_T30 t171 x20_1).f2), .int .i64 ((rd_T30 t171 x20_1).f3)], .int .i64 a2, .int .i64 a3] rfl (by (try simp only [List.map_toArray, List.map_cons, List.map_nil]); first | done | rfl | (simp only [List.length_drop, List.length_take]; rfl)) ?_; (with_reducible refine (rect_Holds.calls ((rd_T30 t171 x20_1).f0) ((rd_T30 t171 x20_1).f1) ((rd_T30 t171 x20_1).f2) ((rd_T30 t171 x20_1).f3) a2 a3 false _ A22.out).mono ?_); rintro e w27 ⟨rfl, hb⟩; refine ⟨_, rfl, ?_⟩; have n0_ := Aside0.mk (Kd.R_below (by (with_reducible repeat (first | apply Kd.R_alloc | apply Kd.R_drewN | apply Kd.R_drew)); exact HO_9.out) hb); have n1_ := Aside0.mk (blk_below (g := gb168) (o := .cells #[.int .i64 a0_0, .int .i64 a0_1, .int .i64 a0_2, .int .i64 a0_3] 30 (0, 0)) (by (with_reducible repeat (first | refine blk_drewN ?_ _ | refine blk_drew ?_ | refine blk_alloc ?_ _)); exact BK168.out) hb); have n2_ := Aside0.mk (blk_below (g := gb169) (o := .cells #[.int .i64 a1_0, .int .i64 a1_1, .int .i64 a1_2, .int .i64 a1_3] 30 (0, 0)) (by (with_reducible repeat (first | refine blk_drewN ?_ _ | refine blk_drew ?_ | refine blk_alloc ?_ _)); exact BK169.out) hb); have n3_ := Aside0.mk (below_step (by repeat (first | (with_reducible first | exact HB.out | apply below_alloc | apply pw_below_drewN | apply below_drew1 | refine below_set ?_ GE168.out | refine below_set ?_ GE169.out) | exact HB.out)) hb); clear HO_9; clear BK168; clear BK169; clear HB; have HO_9 := n0_; have BK168 := n1_; have BK169 := n2_; have HB := n3_; clear n0_ n1_ n2_ n3_; (try clear hb); (try clear hb2); (try clear hk); (try clear hi)))
                  go_roundg k1
                  case measure => have := HK1.out; omega
                  case rel => exact ⟨(x10_1), (wrap64 (x20_1 + 1)), (by first | rfl | (simp; done) | (simp [*]; done)), (by first | rfl | (simp; done) | (simp [*]; done)), H', ⟨by have := HK1.out; omega⟩, ⟨by (with_reducible repeat (first | apply Kd.R_alloc | apply Kd.R_drewN | apply Kd.R_drew)); exact HO_9.out⟩, ⟨by (with_reducible repeat (first | refine blk_drewN ?_ _ | refine blk_drew ?_ | refine blk_alloc ?_ _)); exact BK168.out⟩, ⟨by (with_reducible repeat (first | refine blk_drewN ?_ _ | refine blk_drew ?_ | refine blk_alloc ?_ _)); exact BK169.out⟩, ⟨by repeat (first | (with_reducible first | exact HB.out | apply below_alloc | apply pw_below_drewN | apply below_drew1 | refine below_set ?_ GE168.out | refine below_set ?_ GE169.out) | exact HB.out)⟩⟩
            · rw [if_neg c18] at H
              exact absurd H (by simp)
          · rw [if_neg c17] at H
            exact absurd H (by simp)
        · rw [if_neg c16] at H
          have c16b0 : decide (x20_1 < (t171.length : Int)) = false := decide_eq_false c16
          clear c16
          have HC28 := Aside0.mk H
          clear H
          go_upto_region 14 with (fail)
          go_cut [48] (fun v48 wc => ∃ (kq : Nat) (x48_27 : Bool), v48 = .bool x48_27 ∧ Aside0 (decoupagelaw02_RectCuts.j1 kq t171 x10_1 0 x48_27 a0_0 a0_1 a0_2 a0_3 a1_0 a1_1 a1_2 a1_3 = some r) ∧ Aside0 (kq ≤ k1) ∧ Aside0 (Kd.R k30 30 wc w.heap.size (fun k_ => k_ ≠ gb168 ∧ k_ ≠ gb169) (.slice Ao15 t171.length co15) t171) ∧ Aside0 (wc.heap[gb168]? = some (.cells #[.int .i64 a0_0, .int .i64 a0_1, .int .i64 a0_2, .int .i64 a0_3] 30 (0, 0))) ∧ Aside0 (wc.heap[gb169]? = some (.cells #[.int .i64 a1_0, .int .i64 a1_1, .int .i64 a1_2, .int .i64 a1_3] 30 (0, 0))) ∧ Aside0 (Below w.heap.size w wc))
          case first =>
            have H := HC28.out
            clear HC28
            replace H := Option.bind_eq_some_iff.mp H
            obtain ⟨t178, A290, H⟩ := H
            replace H : (if t178 = true then ((decoupageref02_Holds.f a1_0 a1_1 a1_2 a1_3 a2 a3).bind fun t179 => (decoupagelaw02_RectCuts.j1 k1 t171 x10_1 0 (!t179) a0_0 a0_1 a0_2 a0_3 a1_0 a1_1 a1_2 a1_3)) else (decoupagelaw02_RectCuts.j1 k1 t171 x10_1 0 false a0_0 a0_1 a0_2 a0_3 a1_0 a1_1 a1_2 a1_3)) = some r := H
            have A29 := Aside0.mk A290
            clear A290
            by_cases c30 : t178 = true
            · subst c30
              have H1 : ((decoupageref02_Holds.f a1_0 a1_1 a1_2 a1_3 a2 a3).bind fun t179 => (decoupagelaw02_RectCuts.j1 k1 t171 x10_1 0 (!t179) a0_0 a0_1 a0_2 a0_3 a1_0 a1_1 a1_2 a1_3)) = some r := by rw [if_pos rfl] at H; exact H
              clear H
              have H := H1
              clear H1
              replace H := Option.bind_eq_some_iff.mp H
              obtain ⟨t179, A310, H⟩ := H
              replace H : (decoupagelaw02_RectCuts.j1 k1 t171 x10_1 0 (!t179) a0_0 a0_1 a0_2 a0_3 a1_0 a1_1 a1_2 a1_3) = some r := H
              have A31 := Aside0.mk A310
              clear A310
              have H' := Aside0.mk H
              clear H
              have hnb32 := NB168_169.out
              have hnc32 := NB169_168.out
              have hcz33_0 : wr.cell? ⟨gb168, 0, none⟩ = some (.int .i64 a0_0) := (blk_cell BK168.out 0).trans rfl
              have hcz33_1 : wr.cell? ⟨gb168, 1, none⟩ = some (.int .i64 a0_1) := (blk_cell BK168.out 1).trans rfl
              have hcz33_2 : wr.cell? ⟨gb168, 2, none⟩ = some (.int .i64 a0_2) := (blk_cell BK168.out 2).trans rfl
              have hcz33_3 : wr.cell? ⟨gb168, 3, none⟩ = some (.int .i64 a0_3) := (blk_cell BK168.out 3).trans rfl
              have hfz33_0 := blk_frozen BK168.out 0
              have hfz33_1 := blk_frozen BK168.out 1
              have hfz33_2 := blk_frozen BK168.out 2
              have hfz33_3 := blk_frozen BK168.out 3
              go_wp2_with (first | ((with_reducible refine gate_callee (f := 22) rfl ?_); refine goesL_ (some 41) rfl rfl Try.func22 (by kernel_rfl) rfl #[.agg #[.int .i64 a0_0, .int .i64 a0_1, .int .i64 a0_2, .int .i64 a0_3], .int .i64 a2, .int .i64 a3] rfl (by (try simp only [List.map_toArray, List.map_cons, List.map_nil]); first | done | rfl | (simp only [List.length_drop, List.length_take]; rfl)) ?_; (with_reducible refine (decoupageref02_Holds.calls a0_0 a0_1 a0_2 a0_3 a2 a3 true _ A29.out).mono ?_); rintro e w34 ⟨rfl, hb⟩; refine ⟨_, rfl, ?_⟩; have n0_ := Aside0.mk (Kd.R_below (by (with_reducible repeat (first | apply Kd.R_alloc | apply Kd.R_drewN | apply Kd.R_drew)); exact HO_9.out) hb); have n1_ := Aside0.mk (blk_below (g := gb168) (o := .cells #[.int .i64 a0_0, .int .i64 a0_1, .int .i64 a0_2, .int .i64 a0_3] 30 (0, 0)) (by (with_reducible repeat (first | refine blk_drewN ?_ _ | refine blk_drew ?_ | refine blk_alloc ?_ _)); exact BK168.out) hb); have n2_ := Aside0.mk (blk_below (g := gb169) (o := .cells #[.int .i64 a1_0, .int .i64 a1_1, .int .i64 a1_2, .int .i64 a1_3] 30 (0, 0)) (by (with_reducible repeat (first | refine blk_drewN ?_ _ | refine blk_drew ?_ | refine blk_alloc ?_ _)); exact BK169.out) hb); have n3_ := Aside0.mk (below_step (by repeat (first | (with_reducible first | exact HB.out | apply below_alloc | apply pw_below_drewN | apply below_drew1 | refine below_set ?_ GE168.out | refine below_set ?_ GE169.out) | exact HB.out)) hb); clear HO_9; clear BK168; clear BK169; clear HB; have HO_9 := n0_; have BK168 := n1_; have BK169 := n2_; have HB := n3_; clear n0_ n1_ n2_ n3_; (try clear hb); (try clear hb2); (try clear hk); (try clear hi); have hcz35_0 : w34.cell? ⟨gb169, 0, none⟩ = some (.int .i64 a1_0) := (blk_cell BK169.out 0).trans rfl; have hcz35_1 : w34.cell? ⟨gb169, 1, none⟩ = some (.int .i64 a1_1) := (blk_cell BK169.out 1).trans rfl; have hcz35_2 : w34.cell? ⟨gb169, 2, none⟩ = some (.int .i64 a1_2) := (blk_cell BK169.out 2).trans rfl; have hcz35_3 : w34.cell? ⟨gb169, 3, none⟩ = some (.int .i64 a1_3) := (blk_cell BK169.out 3).trans rfl; have hfz35_0 := blk_frozen BK169.out 0; have hfz35_1 := blk_frozen BK169.out 1; have hfz35_2 := blk_frozen BK169.out 2; have hfz35_3 := blk_frozen BK169.out 3) | (go_at_call 22; (with_reducible refine (decoupageref02_Holds.calls a1_0 a1_1 a1_2 a1_3 a2 a3 t179 _ A31.out).mono ?_); rintro e w36 ⟨rfl, hb⟩; have n0_ := Aside0.mk (Kd.R_below (by (with_reducible repeat (first | apply Kd.R_alloc | apply Kd.R_drewN | apply Kd.R_drew)); exact HO_9.out) hb); have n1_ := Aside0.mk (blk_below (g := gb168) (o := .cells #[.int .i64 a0_0, .int .i64 a0_1, .int .i64 a0_2, .int .i64 a0_3] 30 (0, 0)) (by (with_reducible repeat (first | refine blk_drewN ?_ _ | refine blk_drew ?_ | refine blk_alloc ?_ _)); exact BK168.out) hb); have n2_ := Aside0.mk (blk_below (g := gb169) (o := .cells #[.int .i64 a1_0, .int .i64 a1_1, .int .i64 a1_2, .int .i64 a1_3] 30 (0, 0)) (by (with_reducible repeat (first | refine blk_drewN ?_ _ | refine blk_drew ?_ | refine blk_alloc ?_ _)); exact BK169.out) hb); have n3_ := Aside0.mk (below_step (by repeat (first | (with_reducible first | exact HB.out | apply below_alloc | apply pw_below_drewN | apply below_drew1 | refine below_set ?_ GE168.out | refine below_set ?_ GE169.out) | exact HB.out)) hb); clear HO_9; clear BK168; clear BK169; clear HB; have HO_9 := n0_; have BK168 := n1_; have BK169 := n2_; have HB := n3_; clear n0_ n1_ n2_ n3_; (try clear hb); (try clear hb2); (try clear hk); (try clear hi)))
              go_meet
              case rel => exact ⟨_, (!t179), (by first | rfl | (simp; done) | (simp [*]; done)), H', ⟨by have := HK1.out; first | omega | exact Nat.le_refl _⟩, ⟨by (with_reducible repeat (first | apply Kd.R_alloc | apply Kd.R_drewN | apply Kd.R_drew)); exact HO_9.out⟩, ⟨by (with_reducible repeat (first | refine blk_drewN ?_ _ | refine blk_drew ?_ | refine blk_alloc ?_ _)); exact BK168.out⟩, ⟨by (with_reducible repeat (first | refine blk_drewN ?_ _ | refine blk_drew ?_ | refine blk_alloc ?_ _)); exact BK169.out⟩, ⟨by repeat (first | (with_reducible first | exact HB.out | apply below_alloc | apply pw_below_drewN | apply below_drew1 | refine below_set ?_ GE168.out | refine below_set ?_ GE169.out) | exact HB.out)⟩⟩
            · replace c30 := Bool.eq_false_iff.mpr c30
              subst c30
              have H1 : (decoupagelaw02_RectCuts.j1 k1 t171 x10_1 0 false a0_0 a0_1 a0_2 a0_3 a1_0 a1_1 a1_2 a1_3) = some r := by rw [if_neg (show ¬ (false = true) by decide)] at H; exact H
              clear H
              have H := H1
              clear H1
              have H' := Aside0.mk H
              clear H
              have hnb37 := NB168_169.out
              have hnc37 := NB169_168.out
              have hcz38_0 : wr.cell? ⟨gb168, 0, none⟩ = some (.int .i64 a0_0) := (blk_cell BK168.out 0).trans rfl
              have hcz38_1 : wr.cell? ⟨gb168, 1, none⟩ = some (.int .i64 a0_1) := (blk_cell BK168.out 1).trans rfl
              have hcz38_2 : wr.cell? ⟨gb168, 2, none⟩ = some (.int .i64 a0_2) := (blk_cell BK168.out 2).trans rfl
              have hcz38_3 : wr.cell? ⟨gb168, 3, none⟩ = some (.int .i64 a0_3) := (blk_cell BK168.out 3).trans rfl
              have hfz38_0 := blk_frozen BK168.out 0
              have hfz38_1 := blk_frozen BK168.out 1
              have hfz38_2 := blk_frozen BK168.out 2
              have hfz38_3 := blk_frozen BK168.out 3
              go_wp2_with (first | ((with_reducible refine gate_callee (f := 22) rfl ?_); refine goesL_ (some 41) rfl rfl Try.func22 (by kernel_rfl) rfl #[.agg #[.int .i64 a0_0, .int .i64 a0_1, .int .i64 a0_2, .int .i64 a0_3], .int .i64 a2, .int .i64 a3] rfl (by (try simp only [List.map_toArray, List.map_cons, List.map_nil]); first | done | rfl | (simp only [List.length_drop, List.length_take]; rfl)) ?_; (with_reducible refine (decoupageref02_Holds.calls a0_0 a0_1 a0_2 a0_3 a2 a3 false _ A29.out).mono ?_); rintro e w39 ⟨rfl, hb⟩; refine ⟨_, rfl, ?_⟩; have n0_ := Aside0.mk (Kd.R_below (by (with_reducible repeat (first | apply Kd.R_alloc | apply Kd.R_drewN | apply Kd.R_drew)); exact HO_9.out) hb); have n1_ := Aside0.mk (blk_below (g := gb168) (o := .cells #[.int .i64 a0_0, .int .i64 a0_1, .int .i64 a0_2, .int .i64 a0_3] 30 (0, 0)) (by (with_reducible repeat (first | refine blk_drewN ?_ _ | refine blk_drew ?_ | refine blk_alloc ?_ _)); exact BK168.out) hb); have n2_ := Aside0.mk (blk_below (g := gb169) (o := .cells #[.int .i64 a1_0, .int .i64 a1_1, .int .i64 a1_2, .int .i64 a1_3] 30 (0, 0)) (by (with_reducible repeat (first | refine blk_drewN ?_ _ | refine blk_drew ?_ | refine blk_alloc ?_ _)); exact BK169.out) hb); have n3_ := Aside0.mk (below_step (by repeat (first | (with_reducible first | exact HB.out | apply below_alloc | apply pw_below_drewN | apply below_drew1 | refine below_set ?_ GE168.out | refine below_set ?_ GE169.out) | exact HB.out)) hb); clear HO_9; clear BK168; clear BK169; clear HB; have HO_9 := n0_; have BK168 := n1_; have BK169 := n2_; have HB := n3_; clear n0_ n1_ n2_ n3_; (try clear hb); (try clear hb2); (try clear hk); (try clear hi)))
              go_meet
              case rel => exact ⟨_, (false), (by first | rfl | (simp; done) | (simp [*]; done)), H', ⟨by have := HK1.out; first | omega | exact Nat.le_refl _⟩, ⟨by (with_reducible repeat (first | apply Kd.R_alloc | apply Kd.R_drewN | apply Kd.R_drew)); exact HO_9.out⟩, ⟨by (with_reducible repeat (first | refine blk_drewN ?_ _ | refine blk_drew ?_ | refine blk_alloc ?_ _)); exact BK168.out⟩, ⟨by (with_reducible repeat (first | refine blk_drewN ?_ _ | refine blk_drew ?_ | refine blk_alloc ?_ _)); exact BK169.out⟩, ⟨by repeat (first | (with_reducible first | exact HB.out | apply below_alloc | apply pw_below_drewN | apply below_drew1 | refine below_set ?_ GE168.out | refine below_set ?_ GE169.out) | exact HB.out)⟩⟩
          case rest =>
            clear HC28
            try clear c1
            try clear p1
            try clear q1
            try clear hx1
            try clear c2
            try clear p2
            try clear c3
            try clear c6
            try clear p6
            try clear c7
            try clear c11
            try clear c16
            try clear c16b0
            try clear c17
            try clear c17b0
            try clear p17
            try clear q17
            try clear hx17
            try clear c18
            try clear c18b0
            try clear c20
            try clear c21
            try clear c22
            try clear c23
            try clear c24
            try clear c27
            try clear c30
            try clear c32
            try clear c37
            try clear hcz12_0
            try clear hcz12_1
            try clear hcz12_2
            try clear hcz12_3
            try clear hcz13_0
            try clear hcz13_1
            try clear hcz13_2
            try clear hcz13_3
            try clear hcz33_0
            try clear hcz33_1
            try clear hcz33_2
            try clear hcz33_3
            try clear hcz35_0
            try clear hcz35_1
            try clear hcz35_2
            try clear hcz35_3
            try clear hcz38_0
            try clear hcz38_1
            try clear hcz38_2
            try clear hcz38_3
            try clear hfz12_0
            try clear hfz12_1
            try clear hfz12_2
            try clear hfz12_3
            try clear hfz13_0
            try clear hfz13_1
            try clear hfz13_2
            try clear hfz13_3
            try clear hfz33_0
            try clear hfz33_1
            try clear hfz33_2
            try clear hfz33_3
            try clear hfz35_0
            try clear hfz35_1
            try clear hfz35_2
            try clear hfz35_3
            try clear hfz38_0
            try clear hfz38_1
            try clear hfz38_2
            try clear hfz38_3
            try clear hx174_0
            try clear hx174_1
            try clear hx174_2
            try clear hx174_3
            try clear hx176_0
            try clear hx176_1
            try clear hx176_2
            try clear hx176_3
            try clear p174
            try clear p176
            try clear p2
            try clear q174
            try clear q176
            obtain ⟨kq, x48_27, rfl, HA, HJ27, HO_9, BK168, BK169, HB⟩ := hcut
            cases kq with
            | zero => exact absurd HA.out (by simp [decoupagelaw02_RectCuts.j1])
            | succ kj27 =>
              have H := HA.out
              clear HA
              simp only [decoupagelaw02_RectCuts.j1] at H
              by_cases c40 : x48_27 = true
              · subst c40
                have H1 : (if x10_1 = 1 then ((decoupageref02_Cut.f kj27 a0_0 a0_1 a0_2 a0_3 a1_0 a1_1 a1_2 a1_3).bind fun t180 => ((decoupageref02_Same.f kj27 t171 t180).bind fun t183 => (some t183))) else (some false)) = some r := by rw [if_pos rfl] at H; exact H
                clear H
                have H := H1
                clear H1
                by_cases c41 : x10_1 = 1
                · rw [if_pos c41] at H
                  have c41b0 : (x10_1 == 1) = true := beq_iff_eq.mpr c41
                  have c41b1 : (x10_1 != 1) = false := bne_eq_false_iff_eq.mpr c41
                  clear c41
                  replace H := Option.bind_eq_some_iff.mp H
                  obtain ⟨t180, A420, H⟩ := H
                  replace H : ((decoupageref02_Same.f kj27 t171 t180).bind fun t183 => (some t183)) = some r := H
                  have A42 := Aside0.mk A420
                  clear A420
                  replace H := Option.bind_eq_some_iff.mp H
                  obtain ⟨t183, A430, H⟩ := H
                  replace H : (some t183) = some r := H
                  have A43 := Aside0.mk A430
                  clear A430
                  obtain rfl := Option.some.inj H
                  have hnb44 := NB168_169.out
                  have hnc44 := NB169_168.out
                  have hcz45_0 : wc.cell? ⟨gb168, 0, none⟩ = some (.int .i64 a0_0) := (blk_cell BK168.out 0).trans rfl
                  have hcz45_1 : wc.cell? ⟨gb168, 1, none⟩ = some (.int .i64 a0_1) := (blk_cell BK168.out 1).trans rfl
                  have hcz45_2 : wc.cell? ⟨gb168, 2, none⟩ = some (.int .i64 a0_2) := (blk_cell BK168.out 2).trans rfl
                  have hcz45_3 : wc.cell? ⟨gb168, 3, none⟩ = some (.int .i64 a0_3) := (blk_cell BK168.out 3).trans rfl
                  have hfz45_0 := blk_frozen BK168.out 0
                  have hfz45_1 := blk_frozen BK168.out 1
                  have hfz45_2 := blk_frozen BK168.out 2
                  have hfz45_3 := blk_frozen BK168.out 3
                  have hcz46_0 : wc.cell? ⟨gb169, 0, none⟩ = some (.int .i64 a1_0) := (blk_cell BK169.out 0).trans rfl
                  have hcz46_1 : wc.cell? ⟨gb169, 1, none⟩ = some (.int .i64 a1_1) := (blk_cell BK169.out 1).trans rfl
                  have hcz46_2 : wc.cell? ⟨gb169, 2, none⟩ = some (.int .i64 a1_2) := (blk_cell BK169.out 2).trans rfl
                  have hcz46_3 : wc.cell? ⟨gb169, 3, none⟩ = some (.int .i64 a1_3) := (blk_cell BK169.out 3).trans rfl
                  have hfz46_0 := blk_frozen BK169.out 0
                  have hfz46_1 := blk_frozen BK169.out 1
                  have hfz46_2 := blk_frozen BK169.out 2
                  have hfz46_3 := blk_frozen BK169.out 3
                  go_wp2_with (first | (go_at_call 29; (with_reducible refine (decoupageref02_Cut.calls kj27 a0_0 a0_1 a0_2 a0_3 a1_0 a1_1 a1_2 a1_3 t180 _ A42.out).mono ?_); rintro e w47 ⟨v181, rfl, ho0, hb⟩; have n0_ := Aside0.mk (Kd.R_elder' (by (with_reducible repeat (first | apply Kd.R_alloc | apply Kd.R_drewN | apply Kd.R_drew)); exact HO_9.out) (Kd.R_base ho0) hb); have n1_ := Aside0.mk (Kd.R_lower (Kd.R_newB (Kd.R_newB (Kd.R_new' ho0 (Kd.R_lt (by (with_reducible repeat (first | apply Kd.R_alloc | apply Kd.R_drewN | apply Kd.R_drew)); exact HO_9.out))) (g := gb168) (o := .cells #[.int .i64 a0_0, .int .i64 a0_1, .int .i64 a0_2, .int .i64 a0_3] 30 (0, 0)) (by (with_reducible repeat (first | refine blk_drewN ?_ _ | refine blk_drew ?_ | refine blk_alloc ?_ _)); exact BK168.out)) (g := gb169) (o := .cells #[.int .i64 a1_0, .int .i64 a1_1, .int .i64 a1_2, .int .i64 a1_3] 30 (0, 0)) (by (with_reducible repeat (first | refine blk_drewN ?_ _ | refine blk_drew ?_ | refine blk_alloc ?_ _)); exact BK169.out)) (below_size (by repeat (first | (with_reducible first | exact HB.out | apply below_alloc | apply pw_below_drewN | apply below_drew1 | refine below_set ?_ GE168.out | refine below_set ?_ GE169.out) | exact HB.out)))); have n2_ := Aside0.mk (blk_below (g := gb168) (o := .cells #[.int .i64 a0_0, .int .i64 a0_1, .int .i64 a0_2, .int .i64 a0_3] 30 (0, 0)) (by (with_reducible repeat (first | refine blk_drewN ?_ _ | refine blk_drew ?_ | refine blk_alloc ?_ _)); exact BK168.out) hb); have n3_ := Aside0.mk (blk_below (g := gb169) (o := .cells #[.int .i64 a1_0, .int .i64 a1_1, .int .i64 a1_2, .int .i64 a1_3] 30 (0, 0)) (by (with_reducible repeat (first | refine blk_drewN ?_ _ | refine blk_drew ?_ | refine blk_alloc ?_ _)); exact BK169.out) hb); have n4_ := Aside0.mk (below_step (by repeat (first | (with_reducible first | exact HB.out | apply below_alloc | apply pw_below_drewN | apply below_drew1 | refine below_set ?_ GE168.out | refine below_set ?_ GE169.out) | exact HB.out)) hb); clear HO_9; clear BK168; clear BK169; clear HB; have HO_9 := n0_; have HO182 := n1_; have BK168 := n2_; have BK169 := n3_; have HB := n4_; clear n0_ n1_ n2_ n3_ n4_; (try clear hb); (try clear hb2); (try clear hk); (try clear hi); (try clear ho0); obtain ⟨Ao48, co48, eo48⟩ := Kd.R_slice HO182.out; subst eo48) | (go_at_call 28; (with_reducible refine (decoupageref02_Same.calls kj27 _ _ t171 _ _ t180 t183 _ ?side1 ?side2 ?side3 ?side4 A43.out).mono ?_); (case side1 => repeat (first | exact (Kd.R_reads' HO_9.out).2.2 | (with_reducible refine Kd.C_alloc ?_ _) | (with_reducible refine Kd.C_drewN ?_ _) | (with_reducible refine Kd.C_drew ?_))); (case side2 => exact (Kd.R_reads' HO_9.out).2.1); (case side3 => repeat (first | exact (Kd.R_reads' HO182.out).2.2 | (with_reducible refine Kd.C_alloc ?_ _) | (with_reducible refine Kd.C_drewN ?_ _) | (with_reducible refine Kd.C_drew ?_))); (case side4 => exact (Kd.R_reads' HO182.out).2.1); rintro e w' ⟨rfl, ⟨nd, rfl⟩⟩))
                  go_ret
                  exact ⟨by first | rfl | (simp [errW_none, errW_some] <;> rfl) | (simp [*, errW_none, errW_some] <;> rfl), by repeat (first | (with_reducible first | exact HB.out | apply below_alloc | apply pw_below_drewN | apply below_drew1 | refine below_set ?_ GE168.out | refine below_set ?_ GE169.out) | exact HB.out)⟩
                · rw [if_neg c41] at H
                  have c41b0 : (x10_1 == 1) = false := beq_eq_false_iff_ne.mpr c41
                  have c41b1 : (x10_1 != 1) = true := bne_iff_ne.mpr c41
                  obtain rfl := Option.some.inj H
                  go_wp2
                  go_ret
                  exact ⟨by first | rfl | (simp [errW_none, errW_some] <;> rfl) | (simp [*, errW_none, errW_some] <;> rfl), by repeat (first | (with_reducible first | exact HB.out | apply below_alloc | apply pw_below_drewN | apply below_drew1 | refine below_set ?_ GE168.out | refine below_set ?_ GE169.out) | exact HB.out)⟩
              · replace c40 := Bool.eq_false_iff.mpr c40
                subst c40
                have H1 : (if x10_1 = 0 then ((decoupageref02_Cut.f kj27 a0_0 a0_1 a0_2 a0_3 a1_0 a1_1 a1_2 a1_3).bind fun t184 => ((decoupageref02_Same.f kj27 t171 t184).bind fun t187 => (some t187))) else (some false)) = some r := by rw [if_neg (show ¬ (false = true) by decide)] at H; exact H
                clear H
                have H := H1
                clear H1
                by_cases c49 : x10_1 = 0
                · rw [if_pos c49] at H
                  have c49b0 : (x10_1 == 0) = true := beq_iff_eq.mpr c49
                  have c49b1 : (x10_1 != 0) = false := bne_eq_false_iff_eq.mpr c49
                  clear c49
                  replace H := Option.bind_eq_some_iff.mp H
                  obtain ⟨t184, A500, H⟩ := H
                  replace H : ((decoupageref02_Same.f kj27 t171 t184).bind fun t187 => (some t187)) = some r := H
                  have A50 := Aside0.mk A500
                  clear A500
                  replace H := Option.bind_eq_some_iff.mp H
                  obtain ⟨t187, A510, H⟩ := H
                  replace H : (some t187) = some r := H
                  have A51 := Aside0.mk A510
                  clear A510
                  obtain rfl := Option.some.inj H
                  have hnb52 := NB168_169.out
                  have hnc52 := NB169_168.out
                  have hcz53_0 : wc.cell? ⟨gb168, 0, none⟩ = some (.int .i64 a0_0) := (blk_cell BK168.out 0).trans rfl
                  have hcz53_1 : wc.cell? ⟨gb168, 1, none⟩ = some (.int .i64 a0_1) := (blk_cell BK168.out 1).trans rfl
                  have hcz53_2 : wc.cell? ⟨gb168, 2, none⟩ = some (.int .i64 a0_2) := (blk_cell BK168.out 2).trans rfl
                  have hcz53_3 : wc.cell? ⟨gb168, 3, none⟩ = some (.int .i64 a0_3) := (blk_cell BK168.out 3).trans rfl
                  have hfz53_0 := blk_frozen BK168.out 0
                  have hfz53_1 := blk_frozen BK168.out 1
                  have hfz53_2 := blk_frozen BK168.out 2
                  have hfz53_3 := blk_frozen BK168.out 3
                  have hcz54_0 : wc.cell? ⟨gb169, 0, none⟩ = some (.int .i64 a1_0) := (blk_cell BK169.out 0).trans rfl
                  have hcz54_1 : wc.cell? ⟨gb169, 1, none⟩ = some (.int .i64 a1_1) := (blk_cell BK169.out 1).trans rfl
                  have hcz54_2 : wc.cell? ⟨gb169, 2, none⟩ = some (.int .i64 a1_2) := (blk_cell BK169.out 2).trans rfl
                  have hcz54_3 : wc.cell? ⟨gb169, 3, none⟩ = some (.int .i64 a1_3) := (blk_cell BK169.out 3).trans rfl
                  have hfz54_0 := blk_frozen BK169.out 0
                  have hfz54_1 := blk_frozen BK169.out 1
                  have hfz54_2 := blk_frozen BK169.out 2
                  have hfz54_3 := blk_frozen BK169.out 3
                  go_wp2_with (first | (go_at_call 29; (with_reducible refine (decoupageref02_Cut.calls kj27 a0_0 a0_1 a0_2 a0_3 a1_0 a1_1 a1_2 a1_3 t184 _ A50.out).mono ?_); rintro e w55 ⟨v185, rfl, ho0, hb⟩; have n0_ := Aside0.mk (Kd.R_elder' (by (with_reducible repeat (first | apply Kd.R_alloc | apply Kd.R_drewN | apply Kd.R_drew)); exact HO_9.out) (Kd.R_base ho0) hb); have n1_ := Aside0.mk (Kd.R_lower (Kd.R_newB (Kd.R_newB (Kd.R_new' ho0 (Kd.R_lt (by (with_reducible repeat (first | apply Kd.R_alloc | apply Kd.R_drewN | apply Kd.R_drew)); exact HO_9.out))) (g := gb168) (o := .cells #[.int .i64 a0_0, .int .i64 a0_1, .int .i64 a0_2, .int .i64 a0_3] 30 (0, 0)) (by (with_reducible repeat (first | refine blk_drewN ?_ _ | refine blk_drew ?_ | refine blk_alloc ?_ _)); exact BK168.out)) (g := gb169) (o := .cells #[.int .i64 a1_0, .int .i64 a1_1, .int .i64 a1_2, .int .i64 a1_3] 30 (0, 0)) (by (with_reducible repeat (first | refine blk_drewN ?_ _ | refine blk_drew ?_ | refine blk_alloc ?_ _)); exact BK169.out)) (below_size (by repeat (first | (with_reducible first | exact HB.out | apply below_alloc | apply pw_below_drewN | apply below_drew1 | refine below_set ?_ GE168.out | refine below_set ?_ GE169.out) | exact HB.out)))); have n2_ := Aside0.mk (blk_below (g := gb168) (o := .cells #[.int .i64 a0_0, .int .i64 a0_1, .int .i64 a0_2, .int .i64 a0_3] 30 (0, 0)) (by (with_reducible repeat (first | refine blk_drewN ?_ _ | refine blk_drew ?_ | refine blk_alloc ?_ _)); exact BK168.out) hb); have n3_ := Aside0.mk (blk_below (g := gb169) (o := .cells #[.int .i64 a1_0, .int .i64 a1_1, .int .i64 a1_2, .int .i64 a1_3] 30 (0, 0)) (by (with_reducible repeat (first | refine blk_drewN ?_ _ | refine blk_drew ?_ | refine blk_alloc ?_ _)); exact BK169.out) hb); have n4_ := Aside0.mk (below_step (by repeat (first | (with_reducible first | exact HB.out | apply below_alloc | apply pw_below_drewN | apply below_drew1 | refine below_set ?_ GE168.out | refine below_set ?_ GE169.out) | exact HB.out)) hb); clear HO_9; clear BK168; clear BK169; clear HB; have HO_9 := n0_; have HO186 := n1_; have BK168 := n2_; have BK169 := n3_; have HB := n4_; clear n0_ n1_ n2_ n3_ n4_; (try clear hb); (try clear hb2); (try clear hk); (try clear hi); (try clear ho0); obtain ⟨Ao56, co56, eo56⟩ := Kd.R_slice HO186.out; subst eo56) | (go_at_call 28; (with_reducible refine (decoupageref02_Same.calls kj27 _ _ t171 _ _ t184 t187 _ ?side1 ?side2 ?side3 ?side4 A51.out).mono ?_); (case side1 => repeat (first | exact (Kd.R_reads' HO_9.out).2.2 | (with_reducible refine Kd.C_alloc ?_ _) | (with_reducible refine Kd.C_drewN ?_ _) | (with_reducible refine Kd.C_drew ?_))); (case side2 => exact (Kd.R_reads' HO_9.out).2.1); (case side3 => repeat (first | exact (Kd.R_reads' HO186.out).2.2 | (with_reducible refine Kd.C_alloc ?_ _) | (with_reducible refine Kd.C_drewN ?_ _) | (with_reducible refine Kd.C_drew ?_))); (case side4 => exact (Kd.R_reads' HO186.out).2.1); rintro e w' ⟨rfl, ⟨nd, rfl⟩⟩))
                  go_ret
                  exact ⟨by first | rfl | (simp [errW_none, errW_some] <;> rfl) | (simp [*, errW_none, errW_some] <;> rfl), by repeat (first | (with_reducible first | exact HB.out | apply below_alloc | apply pw_below_drewN | apply below_drew1 | refine below_set ?_ GE168.out | refine below_set ?_ GE169.out) | exact HB.out)⟩
                · rw [if_neg c49] at H
                  have c49b0 : (x10_1 == 0) = false := beq_eq_false_iff_ne.mpr c49
                  have c49b1 : (x10_1 != 0) = true := bne_iff_ne.mpr c49
                  obtain rfl := Option.some.inj H
                  go_wp2
                  go_ret
                  exact ⟨by first | rfl | (simp [errW_none, errW_some] <;> rfl) | (simp [*, errW_none, errW_some] <;> rfl), by repeat (first | (with_reducible first | exact HB.out | apply below_alloc | apply pw_below_drewN | apply below_drew1 | refine below_set ?_ GE168.out | refine below_set ?_ GE169.out) | exact HB.out)⟩
  · replace c6 := Bool.eq_false_iff.mpr c6
    subst c6
    have H1 : (some false) = some r := by rw [if_neg (show ¬ (false = true) by decide)] at H; exact H
    clear H
    have H := H1
    clear H1
    obtain rfl := Option.some.inj H
    go_enter Try.func7, Try.ntmps7
    go_wp2_with (first | ((with_reducible refine gate_dst (N := 4) rfl ?_); refine box_event ?hg (N := 4) ?hd (cs := #[.int .i64 a0_0, .int .i64 a0_1, .int .i64 a0_2, .int .i64 a0_3]) (t := 30) ?hr ?_; (case hd => rfl); (case hg => rfl); (case hr => first | (go_simp; done) | (go_simp; rfl)); intro gb168 hg w57 hbox hb; have n0_ := Aside0.mk (below_step (by repeat (first | (with_reducible first | exact HB.out | apply below_alloc | apply pw_below_drewN | apply below_drew1) | exact HB.out)) hb); have n1_ := Aside0.mk (hbox); have n2_ := Aside0.mk ((by rw [hg]; exact (below_size (by repeat (first | (with_reducible first | exact HB.out | apply below_alloc | apply pw_below_drewN | apply below_drew1) | exact HB.out))) : w.heap.size ≤ gb168)); have n3_ := Aside0.mk ((by rw [hg]; exact (below_size (by repeat (first | (with_reducible first | exact HB.out | apply below_alloc | apply pw_below_drewN | apply below_drew1) | exact HB.out))) : w.heap.size ≤ gb168)); clear HB; have HB := n0_; have BK168 := n1_; have GW168 := n2_; have GE168 := n3_; clear n0_ n1_ n2_ n3_; clear hb hbox hg) | ((with_reducible refine gate_dst (N := 5) rfl ?_); refine box_event ?hg (N := 5) ?hd (cs := #[.int .i64 a1_0, .int .i64 a1_1, .int .i64 a1_2, .int .i64 a1_3]) (t := 30) ?hr ?_; (case hd => rfl); (case hg => rfl); (case hr => first | (go_simp; done) | (go_simp; rfl)); intro gb169 hg w58 hbox hb; have n0_ := Aside0.mk (blk_below (g := gb168) (o := .cells #[.int .i64 a0_0, .int .i64 a0_1, .int .i64 a0_2, .int .i64 a0_3] 30 (0, 0)) (by (with_reducible repeat (first | refine blk_drewN ?_ _ | refine blk_drew ?_ | refine blk_alloc ?_ _)); exact BK168.out) hb); have n1_ := Aside0.mk (below_step (by repeat (first | (with_reducible first | exact HB.out | apply below_alloc | apply pw_below_drewN | apply below_drew1 | refine below_set ?_ GE168.out) | exact HB.out)) hb); have n2_ := Aside0.mk (hbox); have n3_ := Aside0.mk ((by rw [hg]; exact (below_size (by repeat (first | (with_reducible first | exact HB.out | apply below_alloc | apply pw_below_drewN | apply below_drew1 | refine below_set ?_ GE168.out) | exact HB.out))) : w.heap.size ≤ gb169)); have n4_ := Aside0.mk ((by rw [hg]; exact (below_size (by repeat (first | (with_reducible first | exact HB.out | apply below_alloc | apply pw_below_drewN | apply below_drew1 | refine below_set ?_ GE168.out) | exact HB.out))) : w.heap.size ≤ gb169)); have n5_ := Aside0.mk ((by rw [hg]; exact Nat.ne_of_lt (blk_lt (g := gb168) (o := .cells #[.int .i64 a0_0, .int .i64 a0_1, .int .i64 a0_2, .int .i64 a0_3] 30 (0, 0)) (by (with_reducible repeat (first | refine blk_drewN ?_ _ | refine blk_drew ?_ | refine blk_alloc ?_ _)); exact BK168.out)) : gb168 ≠ gb169)); have n6_ := Aside0.mk ((by rw [hg]; exact Nat.ne_of_gt (blk_lt (g := gb168) (o := .cells #[.int .i64 a0_0, .int .i64 a0_1, .int .i64 a0_2, .int .i64 a0_3] 30 (0, 0)) (by (with_reducible repeat (first | refine blk_drewN ?_ _ | refine blk_drew ?_ | refine blk_alloc ?_ _)); exact BK168.out)) : gb169 ≠ gb168)); clear BK168; clear HB; have BK168 := n0_; have HB := n1_; have BK169 := n2_; have GW169 := n3_; have GE169 := n4_; have NB168_169 := n5_; have NB169_168 := n6_; clear n0_ n1_ n2_ n3_ n4_ n5_ n6_; clear hb hbox hg) | ((with_reducible refine gate_callee (f := 21) rfl ?_); refine goesL_ (some 13) rfl rfl Try.func21 (by kernel_rfl) rfl #[] rfl (by (try simp only [List.map_toArray, List.map_cons, List.map_nil]); first | done | rfl | (simp only [List.length_drop, List.length_take]; rfl)) ?_; (with_reducible refine (decoupagelaw02_awake.calls k  false _ A5.out).mono ?_); rintro e w59 ⟨rfl, hb⟩; refine ⟨_, rfl, ?_⟩; have n0_ := Aside0.mk (blk_below (g := gb168) (o := .cells #[.int .i64 a0_0, .int .i64 a0_1, .int .i64 a0_2, .int .i64 a0_3] 30 (0, 0)) (by (with_reducible repeat (first | refine blk_drewN ?_ _ | refine blk_drew ?_ | refine blk_alloc ?_ _)); exact BK168.out) hb); have n1_ := Aside0.mk (blk_below (g := gb169) (o := .cells #[.int .i64 a1_0, .int .i64 a1_1, .int .i64 a1_2, .int .i64 a1_3] 30 (0, 0)) (by (with_reducible repeat (first | refine blk_drewN ?_ _ | refine blk_drew ?_ | refine blk_alloc ?_ _)); exact BK169.out) hb); have n2_ := Aside0.mk (below_step (by repeat (first | (with_reducible first | exact HB.out | apply below_alloc | apply pw_below_drewN | apply below_drew1 | refine below_set ?_ GE168.out | refine below_set ?_ GE169.out) | exact HB.out)) hb); clear BK168; clear BK169; clear HB; have BK168 := n0_; have BK169 := n1_; have HB := n2_; clear n0_ n1_ n2_; (try clear hb); (try clear hb2); (try clear hk); (try clear hi)))
    go_ret
    exact ⟨by first | rfl | (simp [errW_none, errW_some] <;> rfl) | (simp [*, errW_none, errW_some] <;> rfl), by repeat (first | (with_reducible first | exact HB.out | apply below_alloc | apply pw_below_drewN | apply below_drew1 | refine below_set ?_ GE168.out | refine below_set ?_ GE169.out) | exact HB.out)⟩

end Go.Proofs.Ytmfmpfneekngaaa.PRectCuts
