/- What is proved: texts of the law HarmTells, written by program, anew in fewer bytes. Conditions: none but those in each statement. -/
import Derived.Test.YtppklhfiajjhmaaZHarmTellsPHarmTellsx0
import Derived.Test.YtppklhfiajjhmaaZHarmTellsPHarmTellsx8
import Derived.Test.YtppklhfiajjhmaaZHarmTellsPHarmTellsx9
namespace Go.Proofs.Ytppklhfiajjhmaa.PHarmTells
open Go.RowKit Go.Proofs.YtppklhfiajjhmaaW.PrintWords Go.Proofs.YtppklhfiajjhmaaW.PrintLast Go.Proofs.YtppklhfiajjhmaaW.PrintMore
attribute [local go_sem] max2_int min2_int max_two min_two max_three min_three max_four min_four   -- for this text's walks alone
set_option linter.unusedVariables false
set_option linter.unusedSimpArgs false

/-! ### decoupageref02_Cut: function 68 -/
mutual
def decoupageref02_Cut.j0 : Nat → List (S37) → Int → Int → Int → Int → Int → Int → Int → Int → Option ((List (S37)))
 | 0, _, _, _, _, _, _, _, _, _ => none
 | k + 1, x5, x257000, x257001, x257002, x257003, x263000, x263001, x263002, x263003 => if x263003 < x257003 then (if x5.length < 4398046511104 then (decoupageref02_Cut.j1 k (x5 ++ [(⟨x257000, x263003, x257002, x257003⟩ : S37)]) x257000 x257001 x257002 x257003 x263000 x263001 x263002 x263003) else (none)) else (decoupageref02_Cut.j1 k x5 x257000 x257001 x257002 x257003 x263000 x263001 x263002 x263003)
def decoupageref02_Cut.j1 : Nat → List (S37) → Int → Int → Int → Int → Int → Int → Int → Int → Option ((List (S37)))
 | 0, _, _, _, _, _, _, _, _, _ => none
 | k + 1, x5, x257000, x257001, x257002, x257003, x263000, x263001, x263002, x263003 => if x257000 < x263000 then (if x5.length < 4398046511104 then ((some (x5 ++ [(⟨x257000, x263001, x263000, x263003⟩ : S37)] : List (S37))).bind fun y274 => (if x263002 < x257002 then (if y274.length < 4398046511104 then (some (y274 ++ [(⟨x263002, x263001, x257002, x263003⟩ : S37)])) else (none)) else (some y274))) else (none)) else (if x263002 < x257002 then (if x5.length < 4398046511104 then (some (x5 ++ [(⟨x263002, x263001, x257002, x263003⟩ : S37)])) else (none)) else (some x5))
end
def decoupageref02_Cut.f (k : Nat) (a0_0 : Int) (a0_1 : Int) (a0_2 : Int) (a0_3 : Int) (a1_0 : Int) (a1_1 : Int) (a1_2 : Int) (a1_3 : Int) : Option ((List (S37))) := (decoupageref02_Meet.f k a0_0 a0_1 a0_2 a0_3 a1_0 a1_1 a1_2 a1_3).bind fun bt258 => ((decoupageref02_Empty.f a0_0 a0_1 a0_2 a0_3).bind fun t263 => (if t263 = true then (some ([] : List (S37))) else ((decoupageref02_Empty.f bt258.1 bt258.2.1 bt258.2.2.1 bt258.2.2.2).bind fun t264 => (if t264 = true then (some (([(⟨a0_0, a0_1, a0_2, a0_3⟩ : S37)] : List (S37)))) else (if a0_1 < bt258.2.1 then (if ([] : List (S37)).length < 4398046511104 then (decoupageref02_Cut.j0 k (([] : List (S37)) ++ [(⟨a0_0, a0_1, a0_2, bt258.2.1⟩ : S37)]) a0_0 a0_1 a0_2 a0_3 bt258.1 bt258.2.1 bt258.2.2.1 bt258.2.2.2) else (none)) else (decoupageref02_Cut.j0 k ([] : List (S37)) a0_0 a0_1 a0_2 a0_3 bt258.1 bt258.2.1 bt258.2.2.1 bt258.2.2.2))))))
theorem decoupageref02_Cut.mono_l : ∀ k, (∀ y0 y1 y2 y3 y4 y5 y6 y7 y8, LeO (decoupageref02_Cut.j0 k y0 y1 y2 y3 y4 y5 y6 y7 y8) (decoupageref02_Cut.j0 (k + 1) y0 y1 y2 y3 y4 y5 y6 y7 y8)) ∧ (∀ y0 y1 y2 y3 y4 y5 y6 y7 y8, LeO (decoupageref02_Cut.j1 k y0 y1 y2 y3 y4 y5 y6 y7 y8) (decoupageref02_Cut.j1 (k + 1) y0 y1 y2 y3 y4 y5 y6 y7 y8))
 | 0 => ⟨fun _ _ _ _ _ _ _ _ _ r h => by simp [decoupageref02_Cut.j0] at h, fun _ _ _ _ _ _ _ _ _ r h => by simp [decoupageref02_Cut.j1] at h⟩
 | k + 1 => by
  obtain ⟨ih0, ih1⟩ := decoupageref02_Cut.mono_l k
  refine ⟨?_, ?_⟩
  ·intro y0 y1 y2 y3 y4 y5 y6 y7 y8
   unfold decoupageref02_Cut.j0
   repeat' first
   | (with_reducible exact ih0 _ _ _ _ _ _ _ _ _)
   | (with_reducible exact ih1 _ _ _ _ _ _ _ _ _)
   | (with_reducible exact decoupageref02_Meet.mono _ _ _ _ _ _ _ _ _)
   | (with_reducible exact LeO.refl _)
   | (with_reducible exact LeO.none _)
   | (with_reducible refine LeO.ite ?_ ?_)
   | (with_reducible refine LeO.bind ?_ (fun _ => ?_))
   | exact ih0 _ _ _ _ _ _ _ _ _
   | exact ih1 _ _ _ _ _ _ _ _ _
   | exact decoupageref02_Meet.mono _ _ _ _ _ _ _ _ _
   | exact LeO.none _
   | refine LeO.ite ?_ ?_
   | refine LeO.bind ?_ (fun _ => ?_)
  ·intro y0 y1 y2 y3 y4 y5 y6 y7 y8
   unfold decoupageref02_Cut.j1
   repeat' first
   | (with_reducible exact ih0 _ _ _ _ _ _ _ _ _)
   | (with_reducible exact ih1 _ _ _ _ _ _ _ _ _)
   | (with_reducible exact decoupageref02_Meet.mono _ _ _ _ _ _ _ _ _)
   | (with_reducible exact LeO.refl _)
   | (with_reducible exact LeO.none _)
   | (with_reducible refine LeO.ite ?_ ?_)
   | (with_reducible refine LeO.bind ?_ (fun _ => ?_))
   | exact ih0 _ _ _ _ _ _ _ _ _
   | exact ih1 _ _ _ _ _ _ _ _ _
   | exact decoupageref02_Meet.mono _ _ _ _ _ _ _ _ _
   | exact LeO.none _
   | refine LeO.ite ?_ ?_
   | refine LeO.bind ?_ (fun _ => ?_)
theorem decoupageref02_Cut.mono : ∀ a0 a1 a2 a3 a4 a5 a6 a7 k, LeO (decoupageref02_Cut.f k a0 a1 a2 a3 a4 a5 a6 a7) (decoupageref02_Cut.f (k + 1) a0 a1 a2 a3 a4 a5 a6 a7) := by
 intro a0 a1 a2 a3 a4 a5 a6 a7 k
 obtain ⟨ih0, ih1⟩ := decoupageref02_Cut.mono_l k
 unfold decoupageref02_Cut.f
 repeat' first
   | (with_reducible exact ih0 _ _ _ _ _ _ _ _ _)
   | (with_reducible exact ih1 _ _ _ _ _ _ _ _ _)
   | (with_reducible exact decoupageref02_Meet.mono _ _ _ _ _ _ _ _ _)
   | (with_reducible exact LeO.refl _)
   | (with_reducible exact LeO.none _)
   | (with_reducible refine LeO.ite ?_ ?_)
   | (with_reducible refine LeO.bind ?_ (fun _ => ?_))
   | exact ih0 _ _ _ _ _ _ _ _ _
   | exact ih1 _ _ _ _ _ _ _ _ _
   | exact decoupageref02_Meet.mono _ _ _ _ _ _ _ _ _
   | exact LeO.none _
   | refine LeO.ite ?_ ?_
   | refine LeO.bind ?_ (fun _ => ?_)
set_option maxHeartbeats 8000000 in
set_option maxRecDepth 100000 in
theorem decoupageref02_Cut.calls (k : Nat) (a0_0 : Int) (a0_1 : Int) (a0_2 : Int) (a0_3 : Int) (a1_0 : Int) (a1_1 : Int) (a1_2 : Int) (a1_3 : Int) (r : List (S37)) (w : World) (h : decoupageref02_Cut.f k a0_0 a0_1 a0_2 a0_3 a1_0 a1_1 a1_2 a1_3 = some r) :
  Calls Try.prog 68 #[.agg #[.int .i64 a0_0, .int .i64 a0_1, .int .i64 a0_2, .int .i64 a0_3], .agg #[.int .i64 a1_0, .int .i64 a1_1, .int .i64 a1_2, .int .i64 a1_3]] w fun e w' => ∃ v0_ : Value, e = .returned (v0_) ∧ Kd.R k37 37 w' w.heap.size (fun _ => True) v0_ r ∧ Below w.heap.size w w' := by
 have hu37 := Try.underlying37
 have HB := Aside0.mk (Below.refl w.heap.size w)
 have H : ((decoupageref02_Meet.f k a0_0 a0_1 a0_2 a0_3 a1_0 a1_1 a1_2 a1_3).bind fun bt258 => ((decoupageref02_Empty.f a0_0 a0_1 a0_2 a0_3).bind fun t263 => (if t263 = true then (some ([] : List (S37))) else ((decoupageref02_Empty.f bt258.1 bt258.2.1 bt258.2.2.1 bt258.2.2.2).bind fun t264 => (if t264 = true then (some (([(⟨a0_0, a0_1, a0_2, a0_3⟩ : S37)] : List (S37)))) else (if a0_1 < bt258.2.1 then (if ([] : List (S37)).length < 4398046511104 then (decoupageref02_Cut.j0 k (([] : List (S37)) ++ [(⟨a0_0, a0_1, a0_2, bt258.2.1⟩ : S37)]) a0_0 a0_1 a0_2 a0_3 bt258.1 bt258.2.1 bt258.2.2.1 bt258.2.2.2) else (none)) else (decoupageref02_Cut.j0 k ([] : List (S37)) a0_0 a0_1 a0_2 a0_3 bt258.1 bt258.2.1 bt258.2.2.1 bt258.2.2.2))))))) = some r := h
 clear h
 replace H := Option.bind_eq_some_iff.mp H
 obtain ⟨⟨t258, t259, t260, t261⟩, A30, H⟩ := H
 replace H : ((decoupageref02_Empty.f a0_0 a0_1 a0_2 a0_3).bind fun t263 => (if t263 = true then (some ([] : List (S37))) else ((decoupageref02_Empty.f t258 t259 t260 t261).bind fun t264 => (if t264 = true then (some (([(⟨a0_0, a0_1, a0_2, a0_3⟩ : S37)] : List (S37)))) else (if a0_1 < t259 then (if ([] : List (S37)).length < 4398046511104 then (decoupageref02_Cut.j0 k (([] : List (S37)) ++ [(⟨a0_0, a0_1, a0_2, t259⟩ : S37)]) a0_0 a0_1 a0_2 a0_3 t258 t259 t260 t261) else (none)) else (decoupageref02_Cut.j0 k ([] : List (S37)) a0_0 a0_1 a0_2 a0_3 t258 t259 t260 t261)))))) = some r := H
 have A3 := Aside0.mk A30
 clear A30
 replace H := Option.bind_eq_some_iff.mp H
 obtain ⟨t263, A40, H⟩ := H
 replace H : (if t263 = true then (some ([] : List (S37))) else ((decoupageref02_Empty.f t258 t259 t260 t261).bind fun t264 => (if t264 = true then (some (([(⟨a0_0, a0_1, a0_2, a0_3⟩ : S37)] : List (S37)))) else (if a0_1 < t259 then (if ([] : List (S37)).length < 4398046511104 then (decoupageref02_Cut.j0 k (([] : List (S37)) ++ [(⟨a0_0, a0_1, a0_2, t259⟩ : S37)]) a0_0 a0_1 a0_2 a0_3 t258 t259 t260 t261) else (none)) else (decoupageref02_Cut.j0 k ([] : List (S37)) a0_0 a0_1 a0_2 a0_3 t258 t259 t260 t261))))) = some r := H
 have A4 := Aside0.mk A40
 clear A40
 by_cases c5 : t263 = true
 ·subst c5
  have H1 : (some ([] : List (S37))) = some r := by rw [if_pos rfl] at H; exact H
  clear H
  have H := H1
  clear H1
  obtain rfl := Option.some.inj H
  go_enter Try.func68, Try.ntmps68
  go_wp2_with (first | ((with_reducible refine gate_dst (N := 2) rfl ?_); refine box_event ?hg (N := 2) ?hd (cs := #[.int .i64 a0_0, .int .i64 a0_1, .int .i64 a0_2, .int .i64 a0_3]) (t := 37) ?hr ?_; (case hd => rfl); (case hg => rfl); (case hr => first | (go_simp; done) | (go_simp; rfl)); intro gb256 hg w6 hbox hb; have n0_ := Aside0.mk (below_step (by repeat (first | (with_reducible first | exact HB.out | apply below_alloc | apply pw_below_drewN | apply below_drew1) | exact HB.out)) hb); have n1_ := Aside0.mk (hbox); have n2_ := Aside0.mk ((by rw [hg]; exact (below_size (by repeat (first | (with_reducible first | exact HB.out | apply below_alloc | apply pw_below_drewN | apply below_drew1) | exact HB.out))) : w.heap.size ≤ gb256)); have n3_ := Aside0.mk ((by rw [hg]; exact (below_size (by repeat (first | (with_reducible first | exact HB.out | apply below_alloc | apply pw_below_drewN | apply below_drew1) | exact HB.out))) : w.heap.size ≤ gb256)); clear HB; have HB := n0_; have BK256 := n1_; have GW256 := n2_; have GE256 := n3_; clear n0_ n1_ n2_ n3_; clear hb hbox hg) | ((with_reducible refine gate_dst (N := 3) rfl ?_); refine box_event ?hg (N := 3) ?hd (cs := #[.int .i64 a1_0, .int .i64 a1_1, .int .i64 a1_2, .int .i64 a1_3]) (t := 37) ?hr ?_; (case hd => rfl); (case hg => rfl); (case hr => first | (go_simp; done) | (go_simp; rfl)); intro gb257 hg w7 hbox hb; have n0_ := Aside0.mk (blk_below (g := gb256) (o := .cells #[.int .i64 a0_0, .int .i64 a0_1, .int .i64 a0_2, .int .i64 a0_3] 37 (0, 0)) (by (with_reducible repeat (first | refine blk_drewN ?_ _ | refine blk_drew ?_ | refine blk_alloc ?_ _)); exact BK256.out) hb); have n1_ := Aside0.mk (below_step (by repeat (first | (with_reducible first | exact HB.out | apply below_alloc | apply pw_below_drewN | apply below_drew1 | refine below_set ?_ GE256.out) | exact HB.out)) hb); have n2_ := Aside0.mk (hbox); have n3_ := Aside0.mk ((by rw [hg]; exact (below_size (by repeat (first | (with_reducible first | exact HB.out | apply below_alloc | apply pw_below_drewN | apply below_drew1 | refine below_set ?_ GE256.out) | exact HB.out))) : w.heap.size ≤ gb257)); have n4_ := Aside0.mk ((by rw [hg]; exact (below_size (by repeat (first | (with_reducible first | exact HB.out | apply below_alloc | apply pw_below_drewN | apply below_drew1 | refine below_set ?_ GE256.out) | exact HB.out))) : w.heap.size ≤ gb257)); have n5_ := Aside0.mk ((by rw [hg]; exact Nat.ne_of_lt (blk_lt (g := gb256) (o := .cells #[.int .i64 a0_0, .int .i64 a0_1, .int .i64 a0_2, .int .i64 a0_3] 37 (0, 0)) (by (with_reducible repeat (first | refine blk_drewN ?_ _ | refine blk_drew ?_ | refine blk_alloc ?_ _)); exact BK256.out)) : gb256 ≠ gb257)); have n6_ := Aside0.mk ((by rw [hg]; exact Nat.ne_of_gt (blk_lt (g := gb256) (o := .cells #[.int .i64 a0_0, .int .i64 a0_1, .int .i64 a0_2, .int .i64 a0_3] 37 (0, 0)) (by (with_reducible repeat (first | refine blk_drewN ?_ _ | refine blk_drew ?_ | refine blk_alloc ?_ _)); exact BK256.out)) : gb257 ≠ gb256)); clear BK256; clear HB; have BK256 := n0_; have HB := n1_; have BK257 := n2_; have GW257 := n3_; have GE257 := n4_; have NB256_257 := n5_; have NB257_256 := n6_; clear n0_ n1_ n2_ n3_ n4_ n5_ n6_; clear hb hbox hg; have hnb8 := NB256_257.out; have hnc8 := NB257_256.out; have hcz9_0 : w7.cell? ⟨gb256, 0, none⟩ = some (.int .i64 a0_0) := (blk_cell BK256.out 0).trans rfl; have hcz9_1 : w7.cell? ⟨gb256, 1, none⟩ = some (.int .i64 a0_1) := (blk_cell BK256.out 1).trans rfl; have hcz9_2 : w7.cell? ⟨gb256, 2, none⟩ = some (.int .i64 a0_2) := (blk_cell BK256.out 2).trans rfl; have hcz9_3 : w7.cell? ⟨gb256, 3, none⟩ = some (.int .i64 a0_3) := (blk_cell BK256.out 3).trans rfl; have hfz9_0 := blk_frozen BK256.out 0; have hfz9_1 := blk_frozen BK256.out 1; have hfz9_2 := blk_frozen BK256.out 2; have hfz9_3 := blk_frozen BK256.out 3; have hcz10_0 : w7.cell? ⟨gb257, 0, none⟩ = some (.int .i64 a1_0) := (blk_cell BK257.out 0).trans rfl; have hcz10_1 : w7.cell? ⟨gb257, 1, none⟩ = some (.int .i64 a1_1) := (blk_cell BK257.out 1).trans rfl; have hcz10_2 : w7.cell? ⟨gb257, 2, none⟩ = some (.int .i64 a1_2) := (blk_cell BK257.out 2).trans rfl; have hcz10_3 : w7.cell? ⟨gb257, 3, none⟩ = some (.int .i64 a1_3) := (blk_cell BK257.out 3).trans rfl; have hfz10_0 := blk_frozen BK257.out 0; have hfz10_1 := blk_frozen BK257.out 1; have hfz10_2 := blk_frozen BK257.out 2; have hfz10_3 := blk_frozen BK257.out 3) | ((with_reducible refine gate_callee (f := 59) rfl ?_); refine goesL_ (some 9) rfl rfl Try.func59 (by kernel_rfl) rfl #[.agg #[.int .i64 a0_0, .int .i64 a0_1, .int .i64 a0_2, .int .i64 a0_3], .agg #[.int .i64 a1_0, .int .i64 a1_1, .int .i64 a1_2, .int .i64 a1_3]] rfl (by (try simp only [List.map_toArray, List.map_cons, List.map_nil]); first | done | rfl | (simp only [List.length_drop, List.length_take]; rfl)) ?_; (with_reducible refine (decoupageref02_Meet.calls k a0_0 a0_1 a0_2 a0_3 a1_0 a1_1 a1_2 a1_3 t258 t259 t260 t261 _ A3.out).mono ?_); rintro e w11 ⟨rfl, hb⟩; refine ⟨_, rfl, ?_⟩; have n0_ := Aside0.mk (blk_below (g := gb256) (o := .cells #[.int .i64 a0_0, .int .i64 a0_1, .int .i64 a0_2, .int .i64 a0_3] 37 (0, 0)) (by (with_reducible repeat (first | refine blk_drewN ?_ _ | refine blk_drew ?_ | refine blk_alloc ?_ _)); exact BK256.out) hb); have n1_ := Aside0.mk (blk_below (g := gb257) (o := .cells #[.int .i64 a1_0, .int .i64 a1_1, .int .i64 a1_2, .int .i64 a1_3] 37 (0, 0)) (by (with_reducible repeat (first | refine blk_drewN ?_ _ | refine blk_drew ?_ | refine blk_alloc ?_ _)); exact BK257.out) hb); have n2_ := Aside0.mk (below_step (by repeat (first | (with_reducible first | exact HB.out | apply below_alloc | apply pw_below_drewN | apply below_drew1 | refine below_set ?_ GE256.out | refine below_set ?_ GE257.out) | exact HB.out)) hb); clear BK256; clear BK257; clear HB; have BK256 := n0_; have BK257 := n1_; have HB := n2_; clear n0_ n1_ n2_; (try clear hb); (try clear hb2); (try clear hk); (try clear hi)) | ((with_reducible refine gate_dst (N := 6) rfl ?_); refine box_event ?hg (N := 6) ?hd (cs := #[.int .i64 0, .int .i64 0, .int .i64 0, .int .i64 0]) (t := 37) ?hr ?_; (case hd => rfl); (case hg => rfl); (case hr => first | (go_simp; done) | (go_simp; rfl)); intro gb262 hg w12 hbox hb; have n0_ := Aside0.mk (blk_below (g := gb256) (o := .cells #[.int .i64 a0_0, .int .i64 a0_1, .int .i64 a0_2, .int .i64 a0_3] 37 (0, 0)) (by (with_reducible repeat (first | refine blk_drewN ?_ _ | refine blk_drew ?_ | refine blk_alloc ?_ _)); exact BK256.out) hb); have n1_ := Aside0.mk (blk_below (g := gb257) (o := .cells #[.int .i64 a1_0, .int .i64 a1_1, .int .i64 a1_2, .int .i64 a1_3] 37 (0, 0)) (by (with_reducible repeat (first | refine blk_drewN ?_ _ | refine blk_drew ?_ | refine blk_alloc ?_ _)); exact BK257.out) hb); have n2_ := Aside0.mk (below_step (by repeat (first | (with_reducible first | exact HB.out | apply below_alloc | apply pw_below_drewN | apply below_drew1 | refine below_set ?_ GE256.out | refine below_set ?_ GE257.out) | exact HB.out)) hb); have n3_ := Aside0.mk (hbox); have n4_ := Aside0.mk ((by rw [hg]; exact (below_size (by repeat (first | (with_reducible first | exact HB.out | apply below_alloc | apply pw_below_drewN | apply below_drew1 | refine below_set ?_ GE256.out | refine below_set ?_ GE257.out) | exact HB.out))) : w.heap.size ≤ gb262)); have n5_ := Aside0.mk ((by rw [hg]; exact (below_size (by repeat (first | (with_reducible first | exact HB.out | apply below_alloc | apply pw_below_drewN | apply below_drew1 | refine below_set ?_ GE256.out | refine below_set ?_ GE257.out) | exact HB.out))) : w.heap.size ≤ gb262)); have n6_ := Aside0.mk ((by rw [hg]; exact Nat.ne_of_lt (blk_lt (g := gb256) (o := .cells #[.int .i64 a0_0, .int .i64 a0_1, .int .i64 a0_2, .int .i64 a0_3] 37 (0, 0)) (by (with_reducible repeat (first | refine blk_drewN ?_ _ | refine blk_drew ?_ | refine blk_alloc ?_ _)); exact BK256.out)) : gb256 ≠ gb262)); have n7_ := Aside0.mk ((by rw [hg]; exact Nat.ne_of_gt (blk_lt (g := gb256) (o := .cells #[.int .i64 a0_0, .int .i64 a0_1, .int .i64 a0_2, .int .i64 a0_3] 37 (0, 0)) (by (with_reducible repeat (first | refine blk_drewN ?_ _ | refine blk_drew ?_ | refine blk_alloc ?_ _)); exact BK256.out)) : gb262 ≠ gb256)); have n8_ := Aside0.mk ((by rw [hg]; exact Nat.ne_of_lt (blk_lt (g := gb257) (o := .cells #[.int .i64 a1_0, .int .i64 a1_1, .int .i64 a1_2, .int .i64 a1_3] 37 (0, 0)) (by (with_reducible repeat (first | refine blk_drewN ?_ _ | refine blk_drew ?_ | refine blk_alloc ?_ _)); exact BK257.out)) : gb257 ≠ gb262)); have n9_ := Aside0.mk ((by rw [hg]; exact Nat.ne_of_gt (blk_lt (g := gb257) (o := .cells #[.int .i64 a1_0, .int .i64 a1_1, .int .i64 a1_2, .int .i64 a1_3] 37 (0, 0)) (by (with_reducible repeat (first | refine blk_drewN ?_ _ | refine blk_drew ?_ | refine blk_alloc ?_ _)); exact BK257.out)) : gb262 ≠ gb257)); clear BK256; clear BK257; clear HB; have BK256 := n0_; have BK257 := n1_; have HB := n2_; have BK262 := n3_; have GW262 := n4_; have GE262 := n5_; have NB256_262 := n6_; have NB262_256 := n7_; have NB257_262 := n8_; have NB262_257 := n9_; clear n0_ n1_ n2_ n3_ n4_ n5_ n6_ n7_ n8_ n9_; clear hb hbox hg; have hnb13 := NB262_256.out; have hnc13 := NB256_262.out; have hnb14 := NB262_257.out; have hnc14 := NB257_262.out; have hcz15_0 : w12.cell? ⟨gb262, 0, none⟩ = some (.int .i64 0) := (blk_cell BK262.out 0).trans rfl; have hcz15_1 : w12.cell? ⟨gb262, 1, none⟩ = some (.int .i64 0) := (blk_cell BK262.out 1).trans rfl; have hcz15_2 : w12.cell? ⟨gb262, 2, none⟩ = some (.int .i64 0) := (blk_cell BK262.out 2).trans rfl; have hcz15_3 : w12.cell? ⟨gb262, 3, none⟩ = some (.int .i64 0) := (blk_cell BK262.out 3).trans rfl; have hfz15_0 := blk_frozen BK262.out 0; have hfz15_1 := blk_frozen BK262.out 1; have hfz15_2 := blk_frozen BK262.out 2; have hfz15_3 := blk_frozen BK262.out 3; have hcz16_0 : w12.cell? ⟨gb256, 0, none⟩ = some (.int .i64 a0_0) := (blk_cell BK256.out 0).trans rfl; have hcz16_1 : w12.cell? ⟨gb256, 1, none⟩ = some (.int .i64 a0_1) := (blk_cell BK256.out 1).trans rfl; have hcz16_2 : w12.cell? ⟨gb256, 2, none⟩ = some (.int .i64 a0_2) := (blk_cell BK256.out 2).trans rfl; have hcz16_3 : w12.cell? ⟨gb256, 3, none⟩ = some (.int .i64 a0_3) := (blk_cell BK256.out 3).trans rfl; have hfz16_0 := blk_frozen BK256.out 0; have hfz16_1 := blk_frozen BK256.out 1; have hfz16_2 := blk_frozen BK256.out 2; have hfz16_3 := blk_frozen BK256.out 3) | ((with_reducible refine gate_callee (f := 67) rfl ?_); refine goesL_ (some 11) rfl rfl Try.func67 (by kernel_rfl) rfl #[.agg #[.int .i64 a0_0, .int .i64 a0_1, .int .i64 a0_2, .int .i64 a0_3]] rfl (by (try simp only [List.map_toArray, List.map_cons, List.map_nil]); first | done | rfl | (simp only [List.length_drop, List.length_take]; rfl)) ?_; (with_reducible refine (decoupageref02_Empty.calls a0_0 a0_1 a0_2 a0_3 true _ A4.out).mono ?_); rintro e w17 ⟨rfl, hb⟩; refine ⟨_, rfl, ?_⟩; have n0_ := Aside0.mk (blk_below (g := gb256) (o := .cells #[.int .i64 a0_0, .int .i64 a0_1, .int .i64 a0_2, .int .i64 a0_3] 37 (0, 0)) (by (with_reducible repeat (first | refine blk_drewN ?_ _ | refine blk_drew ?_ | refine blk_alloc ?_ _)); refine blk_far ?_ NB256_262.out _; (with_reducible repeat (first | refine blk_drewN ?_ _ | refine blk_drew ?_ | refine blk_alloc ?_ _)); refine blk_far ?_ NB256_262.out _; (with_reducible repeat (first | refine blk_drewN ?_ _ | refine blk_drew ?_ | refine blk_alloc ?_ _)); refine blk_far ?_ NB256_262.out _; (with_reducible repeat (first | refine blk_drewN ?_ _ | refine blk_drew ?_ | refine blk_alloc ?_ _)); refine blk_far ?_ NB256_262.out _; (with_reducible repeat (first | refine blk_drewN ?_ _ | refine blk_drew ?_ | refine blk_alloc ?_ _)); exact BK256.out) hb); have n1_ := Aside0.mk (blk_below (g := gb257) (o := .cells #[.int .i64 a1_0, .int .i64 a1_1, .int .i64 a1_2, .int .i64 a1_3] 37 (0, 0)) (by (with_reducible repeat (first | refine blk_drewN ?_ _ | refine blk_drew ?_ | refine blk_alloc ?_ _)); refine blk_far ?_ NB257_262.out _; (with_reducible repeat (first | refine blk_drewN ?_ _ | refine blk_drew ?_ | refine blk_alloc ?_ _)); refine blk_far ?_ NB257_262.out _; (with_reducible repeat (first | refine blk_drewN ?_ _ | refine blk_drew ?_ | refine blk_alloc ?_ _)); refine blk_far ?_ NB257_262.out _; (with_reducible repeat (first | refine blk_drewN ?_ _ | refine blk_drew ?_ | refine blk_alloc ?_ _)); refine blk_far ?_ NB257_262.out _; (with_reducible repeat (first | refine blk_drewN ?_ _ | refine blk_drew ?_ | refine blk_alloc ?_ _)); exact BK257.out) hb); have n2_ := Aside0.mk (blk_below (g := gb262) (o := .cells #[.int .i64 t258, .int .i64 t259, .int .i64 t260, .int .i64 t261] 37 (0, 0)) (by (with_reducible repeat (first | refine blk_drewN ?_ _ | refine blk_drew ?_ | refine blk_alloc ?_ _)); refine blk_put (cs := #[.int .i64 t258, .int .i64 t259, .int .i64 t260, .int .i64 0]) ?_ 3 _ rfl; (with_reducible repeat (first | refine blk_drewN ?_ _ | refine blk_drew ?_ | refine blk_alloc ?_ _)); refine blk_put (cs := #[.int .i64 t258, .int .i64 t259, .int .i64 0, .int .i64 0]) ?_ 2 _ rfl; (with_reducible repeat (first | refine blk_drewN ?_ _ | refine blk_drew ?_ | refine blk_alloc ?_ _)); refine blk_put (cs := #[.int .i64 t258, .int .i64 0, .int .i64 0, .int .i64 0]) ?_ 1 _ rfl; (with_reducible repeat (first | refine blk_drewN ?_ _ | refine blk_drew ?_ | refine blk_alloc ?_ _)); refine blk_put (cs := #[.int .i64 0, .int .i64 0, .int .i64 0, .int .i64 0]) ?_ 0 _ rfl; (with_reducible repeat (first | refine blk_drewN ?_ _ | refine blk_drew ?_ | refine blk_alloc ?_ _)); exact BK262.out) hb); have n3_ := Aside0.mk (below_step (by repeat (first | (with_reducible first | exact HB.out | apply below_alloc | apply pw_below_drewN | apply below_drew1 | refine below_set ?_ GE256.out | refine below_set ?_ GE257.out | refine below_set ?_ GE262.out) | exact HB.out)) hb); clear BK256; clear BK257; clear BK262; clear HB; have BK256 := n0_; have BK257 := n1_; have BK262 := n2_; have HB := n3_; clear n0_ n1_ n2_ n3_; (try clear hb); (try clear hb2); (try clear hk); (try clear hi)))
  go_ret
  exact ⟨_, by first | rfl | (simp [errW_none, errW_some] <;> rfl) | (simp [*, errW_none, errW_some] <;> rfl), by first | exact Kd.R_nil _ _ _ _ _ | exact Kd.N_nil _ _ _ _ _ | exact Kd.V_nil _ _ _ _ _ | exact Kd.Q_nil _ _ _ _ _ | exact Kd.S_nil _ _ _ _ _, by repeat (first | (with_reducible first | exact HB.out | apply below_alloc | apply pw_below_drewN | apply below_drew1 | refine below_set ?_ GE256.out | refine below_set ?_ GE257.out | refine below_set ?_ GE262.out) | exact HB.out)⟩
 ·replace c5 := Bool.eq_false_iff.mpr c5
  subst c5
  have H1 : ((decoupageref02_Empty.f t258 t259 t260 t261).bind fun t264 => (if t264 = true then (some (([(⟨a0_0, a0_1, a0_2, a0_3⟩ : S37)] : List (S37)))) else (if a0_1 < t259 then (if ([] : List (S37)).length < 4398046511104 then (decoupageref02_Cut.j0 k (([] : List (S37)) ++ [(⟨a0_0, a0_1, a0_2, t259⟩ : S37)]) a0_0 a0_1 a0_2 a0_3 t258 t259 t260 t261) else (none)) else (decoupageref02_Cut.j0 k ([] : List (S37)) a0_0 a0_1 a0_2 a0_3 t258 t259 t260 t261)))) = some r := by rw [if_neg (show ¬ (false = true) by decide)] at H; exact H
  clear H
  have H := H1
  clear H1
  replace H := Option.bind_eq_some_iff.mp H
  obtain ⟨t264, A180, H⟩ := H
  replace H : (if t264 = true then (some (([(⟨a0_0, a0_1, a0_2, a0_3⟩ : S37)] : List (S37)))) else (if a0_1 < t259 then (if ([] : List (S37)).length < 4398046511104 then (decoupageref02_Cut.j0 k (([] : List (S37)) ++ [(⟨a0_0, a0_1, a0_2, t259⟩ : S37)]) a0_0 a0_1 a0_2 a0_3 t258 t259 t260 t261) else (none)) else (decoupageref02_Cut.j0 k ([] : List (S37)) a0_0 a0_1 a0_2 a0_3 t258 t259 t260 t261))) = some r := H
  have A18 := Aside0.mk A180
  clear A180
  by_cases c19 : t264 = true
  ·subst c19
   have H1 : (some (([(⟨a0_0, a0_1, a0_2, a0_3⟩ : S37)] : List (S37)))) = some r := by rw [if_pos rfl] at H; exact H
   clear H
   have H := H1
   clear H1
   obtain ⟨y265, hy265⟩ : ∃ y_ : List (S37), y_ = (([(⟨a0_0, a0_1, a0_2, a0_3⟩ : S37)] : List (S37))) := ⟨_, rfl⟩
   replace H : (some y265) = some r := by first | (rw [hy265]; with_reducible exact H) | (have H2_ := (Option.bind_some _ _).symm.trans H; rw [hy265]; with_reducible exact H2_) | (have H2_ := (Option.bind_some _ _).symm.trans H; with_reducible exact H2_) | with_reducible exact H | (rw [hy265]; exact H) | exact H
   have Ny265 := Aside0.mk hy265
   clear hy265
   obtain rfl := Option.some.inj H
   go_enter Try.func68, Try.ntmps68
   go_wp2_with (first | ((with_reducible refine gate_dst (N := 2) rfl ?_); refine box_event ?hg (N := 2) ?hd (cs := #[.int .i64 a0_0, .int .i64 a0_1, .int .i64 a0_2, .int .i64 a0_3]) (t := 37) ?hr ?_; (case hd => rfl); (case hg => rfl); (case hr => first | (go_simp; done) | (go_simp; rfl)); intro gb256 hg w20 hbox hb; have n0_ := Aside0.mk (below_step (by repeat (first | (with_reducible first | exact HB.out | apply below_alloc | apply pw_below_drewN | apply below_drew1) | exact HB.out)) hb); have n1_ := Aside0.mk (hbox); have n2_ := Aside0.mk ((by rw [hg]; exact (below_size (by repeat (first | (with_reducible first | exact HB.out | apply below_alloc | apply pw_below_drewN | apply below_drew1) | exact HB.out))) : w.heap.size ≤ gb256)); have n3_ := Aside0.mk ((by rw [hg]; exact (below_size (by repeat (first | (with_reducible first | exact HB.out | apply below_alloc | apply pw_below_drewN | apply below_drew1) | exact HB.out))) : w.heap.size ≤ gb256)); clear HB; have HB := n0_; have BK256 := n1_; have GW256 := n2_; have GE256 := n3_; clear n0_ n1_ n2_ n3_; clear hb hbox hg) | ((with_reducible refine gate_dst (N := 3) rfl ?_); refine box_event ?hg (N := 3) ?hd (cs := #[.int .i64 a1_0, .int .i64 a1_1, .int .i64 a1_2, .int .i64 a1_3]) (t := 37) ?hr ?_; (case hd => rfl); (case hg => rfl); (case hr => first | (go_simp; done) | (go_simp; rfl)); intro gb257 hg w21 hbox hb; have n0_ := Aside0.mk (blk_below (g := gb256) (o := .cells #[.int .i64 a0_0, .int .i64 a0_1, .int .i64 a0_2, .int .i64 a0_3] 37 (0, 0)) (by (with_reducible repeat (first | refine blk_drewN ?_ _ | refine blk_drew ?_ | refine blk_alloc ?_ _)); exact BK256.out) hb); have n1_ := Aside0.mk (below_step (by repeat (first | (with_reducible first | exact HB.out | apply below_alloc | apply pw_below_drewN | apply below_drew1 | refine below_set ?_ GE256.out) | exact HB.out)) hb); have n2_ := Aside0.mk (hbox); have n3_ := Aside0.mk ((by rw [hg]; exact (below_size (by repeat (first | (with_reducible first | exact HB.out | apply below_alloc | apply pw_below_drewN | apply below_drew1 | refine below_set ?_ GE256.out) | exact HB.out))) : w.heap.size ≤ gb257)); have n4_ := Aside0.mk ((by rw [hg]; exact (below_size (by repeat (first | (with_reducible first | exact HB.out | apply below_alloc | apply pw_below_drewN | apply below_drew1 | refine below_set ?_ GE256.out) | exact HB.out))) : w.heap.size ≤ gb257)); have n5_ := Aside0.mk ((by rw [hg]; exact Nat.ne_of_lt (blk_lt (g := gb256) (o := .cells #[.int .i64 a0_0, .int .i64 a0_1, .int .i64 a0_2, .int .i64 a0_3] 37 (0, 0)) (by (with_reducible repeat (first | refine blk_drewN ?_ _ | refine blk_drew ?_ | refine blk_alloc ?_ _)); exact BK256.out)) : gb256 ≠ gb257)); have n6_ := Aside0.mk ((by rw [hg]; exact Nat.ne_of_gt (blk_lt (g := gb256) (o := .cells #[.int .i64 a0_0, .int .i64 a0_1, .int .i64 a0_2, .int .i64 a0_3] 37 (0, 0)) (by (with_reducible repeat (first | refine blk_drewN ?_ _ | refine blk_drew ?_ | refine blk_alloc ?_ _)); exact BK256.out)) : gb257 ≠ gb256)); clear BK256; clear HB; have BK256 := n0_; have HB := n1_; have BK257 := n2_; have GW257 := n3_; have GE257 := n4_; have NB256_257 := n5_; have NB257_256 := n6_; clear n0_ n1_ n2_ n3_ n4_ n5_ n6_; clear hb hbox hg; have hnb22 := NB256_257.out; have hnc22 := NB257_256.out; have hcz23_0 : w21.cell? ⟨gb256, 0, none⟩ = some (.int .i64 a0_0) := (blk_cell BK256.out 0).trans rfl; have hcz23_1 : w21.cell? ⟨gb256, 1, none⟩ = some (.int .i64 a0_1) := (blk_cell BK256.out 1).trans rfl; have hcz23_2 : w21.cell? ⟨gb256, 2, none⟩ = some (.int .i64 a0_2) := (blk_cell BK256.out 2).trans rfl; have hcz23_3 : w21.cell? ⟨gb256, 3, none⟩ = some (.int .i64 a0_3) := (blk_cell BK256.out 3).trans rfl; have hfz23_0 := blk_frozen BK256.out 0; have hfz23_1 := blk_frozen BK256.out 1; have hfz23_2 := blk_frozen BK256.out 2; have hfz23_3 := blk_frozen BK256.out 3; have hcz24_0 : w21.cell? ⟨gb257, 0, none⟩ = some (.int .i64 a1_0) := (blk_cell BK257.out 0).trans rfl; have hcz24_1 : w21.cell? ⟨gb257, 1, none⟩ = some (.int .i64 a1_1) := (blk_cell BK257.out 1).trans rfl; have hcz24_2 : w21.cell? ⟨gb257, 2, none⟩ = some (.int .i64 a1_2) := (blk_cell BK257.out 2).trans rfl; have hcz24_3 : w21.cell? ⟨gb257, 3, none⟩ = some (.int .i64 a1_3) := (blk_cell BK257.out 3).trans rfl; have hfz24_0 := blk_frozen BK257.out 0; have hfz24_1 := blk_frozen BK257.out 1; have hfz24_2 := blk_frozen BK257.out 2; have hfz24_3 := blk_frozen BK257.out 3) | ((with_reducible refine gate_callee (f := 59) rfl ?_); refine goesL_ (some 9) rfl rfl Try.func59 (by kernel_rfl) rfl #[.agg #[.int .i64 a0_0, .int .i64 a0_1, .int .i64 a0_2, .int .i64 a0_3], .agg #[.int .i64 a1_0, .int .i64 a1_1, .int .i64 a1_2, .int .i64 a1_3]] rfl (by (try simp only [List.map_toArray, List.map_cons, List.map_nil]); first | done | rfl | (simp only [List.length_drop, List.length_take]; rfl)) ?_; (with_reducible refine (decoupageref02_Meet.calls k a0_0 a0_1 a0_2 a0_3 a1_0 a1_1 a1_2 a1_3 t258 t259 t260 t261 _ A3.out).mono ?_); rintro e w25 ⟨rfl, hb⟩; refine ⟨_, rfl, ?_⟩; have n0_ := Aside0.mk (blk_below (g := gb256) (o := .cells #[.int .i64 a0_0, .int .i64 a0_1, .int .i64 a0_2, .int .i64 a0_3] 37 (0, 0)) (by (with_reducible repeat (first | refine blk_drewN ?_ _ | refine blk_drew ?_ | refine blk_alloc ?_ _)); exact BK256.out) hb); have n1_ := Aside0.mk (blk_below (g := gb257) (o := .cells #[.int .i64 a1_0, .int .i64 a1_1, .int .i64 a1_2, .int .i64 a1_3] 37 (0, 0)) (by (with_reducible repeat (first | refine blk_drewN ?_ _ | refine blk_drew ?_ | refine blk_alloc ?_ _)); exact BK257.out) hb); have n2_ := Aside0.mk (below_step (by repeat (first | (with_reducible first | exact HB.out | apply below_alloc | apply pw_below_drewN | apply below_drew1 | refine below_set ?_ GE256.out | refine below_set ?_ GE257.out) | exact HB.out)) hb); clear BK256; clear BK257; clear HB; have BK256 := n0_; have BK257 := n1_; have HB := n2_; clear n0_ n1_ n2_; (try clear hb); (try clear hb2); (try clear hk); (try clear hi)) | ((with_reducible refine gate_dst (N := 6) rfl ?_); refine box_event ?hg (N := 6) ?hd (cs := #[.int .i64 0, .int .i64 0, .int .i64 0, .int .i64 0]) (t := 37) ?hr ?_; (case hd => rfl); (case hg => rfl); (case hr => first | (go_simp; done) | (go_simp; rfl)); intro gb262 hg w26 hbox hb; have n0_ := Aside0.mk (blk_below (g := gb256) (o := .cells #[.int .i64 a0_0, .int .i64 a0_1, .int .i64 a0_2, .int .i64 a0_3] 37 (0, 0)) (by (with_reducible repeat (first | refine blk_drewN ?_ _ | refine blk_drew ?_ | refine blk_alloc ?_ _)); exact BK256.out) hb); have n1_ := Aside0.mk (blk_below (g := gb257) (o := .cells #[.int .i64 a1_0, .int .i64 a1_1, .int .i64 a1_2, .int .i64 a1_3] 37 (0, 0)) (by (with_reducible repeat (first | refine blk_drewN ?_ _ | refine blk_drew ?_ | refine blk_alloc ?_ _)); exact BK257.out) hb); have n2_ := Aside0.mk (below_step (by repeat (first | (with_reducible first | exact HB.out | apply below_alloc | apply pw_below_drewN | apply below_drew1 | refine below_set ?_ GE256.out | refine below_set ?_ GE257.out) | exact HB.out)) hb); have n3_ := Aside0.mk (hbox); have n4_ := Aside0.mk ((by rw [hg]; exact (below_size (by repeat (first | (with_reducible first | exact HB.out | apply below_alloc | apply pw_below_drewN | apply below_drew1 | refine below_set ?_ GE256.out | refine below_set ?_ GE257.out) | exact HB.out))) : w.heap.size ≤ gb262)); have n5_ := Aside0.mk ((by rw [hg]; exact (below_size (by repeat (first | (with_reducible first | exact HB.out | apply below_alloc | apply pw_below_drewN | apply below_drew1 | refine below_set ?_ GE256.out | refine below_set ?_ GE257.out) | exact HB.out))) : w.heap.size ≤ gb262)); have n6_ := Aside0.mk ((by rw [hg]; exact Nat.ne_of_lt (blk_lt (g := gb256) (o := .cells #[.int .i64 a0_0, .int .i64 a0_1, .int .i64 a0_2, .int .i64 a0_3] 37 (0, 0)) (by (with_reducible repeat (first | refine blk_drewN ?_ _ | refine blk_drew ?_ | refine blk_alloc ?_ _)); exact BK256.out)) : gb256 ≠ gb262)); have n7_ := Aside0.mk ((by rw [hg]; exact Nat.ne_of_gt (blk_lt (g := gb256) (o := .cells #[.int .i64 a0_0, .int .i64 a0_1, .int .i64 a0_2, .int .i64 a0_3] 37 (0, 0)) (by (with_reducible repeat (first | refine blk_drewN ?_ _ | refine blk_drew ?_ | refine blk_alloc ?_ _)); exact BK256.out)) : gb262 ≠ gb256)); have n8_ := Aside0.mk ((by rw [hg]; exact Nat.ne_of_lt (blk_lt (g := gb257) (o := .cells #[.int .i64 a1_0, .int .i64 a1_1, .int .i64 a1_2, .int .i64 a1_3] 37 (0, 0)) (by (with_reducible repeat (first | refine blk_drewN ?_ _ | refine blk_drew ?_ | refine blk_alloc ?_ _)); exact BK257.out)) : gb257 ≠ gb262)); have n9_ := Aside0.mk ((by rw [hg]; exact Nat.ne_of_gt (blk_lt (g := gb257) (o := .cells #[.int .i64 a1_0, .int .i64 a1_1, .int .i64 a1_2, .int .i64 a1_3] 37 (0, 0)) (by (with_reducible repeat (first | refine blk_drewN ?_ _ | refine blk_drew ?_ | refine blk_alloc ?_ _)); exact BK257.out)) : gb262 ≠ gb257)); clear BK256; clear BK257; clear HB; have BK256 := n0_; have BK257 := n1_; have HB := n2_; have BK262 := n3_; have GW262 := n4_; have GE262 := n5_; have NB256_262 := n6_; have NB262_256 := n7_; have NB257_262 := n8_; have NB262_257 := n9_; clear n0_ n1_ n2_ n3_ n4_ n5_ n6_ n7_ n8_ n9_; clear hb hbox hg; have hnb27 := NB262_256.out; have hnc27 := NB256_262.out; have hnb28 := NB262_257.out; have hnc28 := NB257_262.out; have hcz29_0 : w26.cell? ⟨gb262, 0, none⟩ = some (.int .i64 0) := (blk_cell BK262.out 0).trans rfl; have hcz29_1 : w26.cell? ⟨gb262, 1, none⟩ = some (.int .i64 0) := (blk_cell BK262.out 1).trans rfl; have hcz29_2 : w26.cell? ⟨gb262, 2, none⟩ = some (.int .i64 0) := (blk_cell BK262.out 2).trans rfl; have hcz29_3 : w26.cell? ⟨gb262, 3, none⟩ = some (.int .i64 0) := (blk_cell BK262.out 3).trans rfl; have hfz29_0 := blk_frozen BK262.out 0; have hfz29_1 := blk_frozen BK262.out 1; have hfz29_2 := blk_frozen BK262.out 2; have hfz29_3 := blk_frozen BK262.out 3; have hcz30_0 : w26.cell? ⟨gb256, 0, none⟩ = some (.int .i64 a0_0) := (blk_cell BK256.out 0).trans rfl; have hcz30_1 : w26.cell? ⟨gb256, 1, none⟩ = some (.int .i64 a0_1) := (blk_cell BK256.out 1).trans rfl; have hcz30_2 : w26.cell? ⟨gb256, 2, none⟩ = some (.int .i64 a0_2) := (blk_cell BK256.out 2).trans rfl; have hcz30_3 : w26.cell? ⟨gb256, 3, none⟩ = some (.int .i64 a0_3) := (blk_cell BK256.out 3).trans rfl; have hfz30_0 := blk_frozen BK256.out 0; have hfz30_1 := blk_frozen BK256.out 1; have hfz30_2 := blk_frozen BK256.out 2; have hfz30_3 := blk_frozen BK256.out 3) | ((with_reducible refine gate_callee (f := 67) rfl ?_); refine goesL_ (some 11) rfl rfl Try.func67 (by kernel_rfl) rfl #[.agg #[.int .i64 a0_0, .int .i64 a0_1, .int .i64 a0_2, .int .i64 a0_3]] rfl (by (try simp only [List.map_toArray, List.map_cons, List.map_nil]); first | done | rfl | (simp only [List.length_drop, List.length_take]; rfl)) ?_; (with_reducible refine (decoupageref02_Empty.calls a0_0 a0_1 a0_2 a0_3 false _ A4.out).mono ?_); rintro e w31 ⟨rfl, hb⟩; refine ⟨_, rfl, ?_⟩; have n0_ := Aside0.mk (blk_below (g := gb256) (o := .cells #[.int .i64 a0_0, .int .i64 a0_1, .int .i64 a0_2, .int .i64 a0_3] 37 (0, 0)) (by (with_reducible repeat (first | refine blk_drewN ?_ _ | refine blk_drew ?_ | refine blk_alloc ?_ _)); refine blk_far ?_ NB256_262.out _; (with_reducible repeat (first | refine blk_drewN ?_ _ | refine blk_drew ?_ | refine blk_alloc ?_ _)); refine blk_far ?_ NB256_262.out _; (with_reducible repeat (first | refine blk_drewN ?_ _ | refine blk_drew ?_ | refine blk_alloc ?_ _)); refine blk_far ?_ NB256_262.out _; (with_reducible repeat (first | refine blk_drewN ?_ _ | refine blk_drew ?_ | refine blk_alloc ?_ _)); refine blk_far ?_ NB256_262.out _; (with_reducible repeat (first | refine blk_drewN ?_ _ | refine blk_drew ?_ | refine blk_alloc ?_ _)); exact BK256.out) hb); have n1_ := Aside0.mk (blk_below (g := gb257) (o := .cells #[.int .i64 a1_0, .int .i64 a1_1, .int .i64 a1_2, .int .i64 a1_3] 37 (0, 0)) (by (with_reducible repeat (first | refine blk_drewN ?_ _ | refine blk_drew ?_ | refine blk_alloc ?_ _)); refine blk_far ?_ NB257_262.out _; (with_reducible repeat (first | refine blk_drewN ?_ _ | refine blk_drew ?_ | refine blk_alloc ?_ _)); refine blk_far ?_ NB257_262.out _; (with_reducible repeat (first | refine blk_drewN ?_ _ | refine blk_drew ?_ | refine blk_alloc ?_ _)); refine blk_far ?_ NB257_262.out _; (with_reducible repeat (first | refine blk_drewN ?_ _ | refine blk_drew ?_ | refine blk_alloc ?_ _)); refine blk_far ?_ NB257_262.out _; (with_reducible repeat (first | refine blk_drewN ?_ _ | refine blk_drew ?_ | refine blk_alloc ?_ _)); exact BK257.out) hb); have n2_ := Aside0.mk (blk_below (g := gb262) (o := .cells #[.int .i64 t258, .int .i64 t259, .int .i64 t260, .int .i64 t261] 37 (0, 0)) (by (with_reducible repeat (first | refine blk_drewN ?_ _ | refine blk_drew ?_ | refine blk_alloc ?_ _)); refine blk_put (cs := #[.int .i64 t258, .int .i64 t259, .int .i64 t260, .int .i64 0]) ?_ 3 _ rfl; (with_reducible repeat (first | refine blk_drewN ?_ _ | refine blk_drew ?_ | refine blk_alloc ?_ _)); refine blk_put (cs := #[.int .i64 t258, .int .i64 t259, .int .i64 0, .int .i64 0]) ?_ 2 _ rfl; (with_reducible repeat (first | refine blk_drewN ?_ _ | refine blk_drew ?_ | refine blk_alloc ?_ _)); refine blk_put (cs := #[.int .i64 t258, .int .i64 0, .int .i64 0, .int .i64 0]) ?_ 1 _ rfl; (with_reducible repeat (first | refine blk_drewN ?_ _ | refine blk_drew ?_ | refine blk_alloc ?_ _)); refine blk_put (cs := #[.int .i64 0, .int .i64 0, .int .i64 0, .int .i64 0]) ?_ 0 _ rfl; (with_reducible repeat (first | refine blk_drewN ?_ _ | refine blk_drew ?_ | refine blk_alloc ?_ _)); exact BK262.out) hb); have n3_ := Aside0.mk (below_step (by repeat (first | (with_reducible first | exact HB.out | apply below_alloc | apply pw_below_drewN | apply below_drew1 | refine below_set ?_ GE256.out | refine below_set ?_ GE257.out | refine below_set ?_ GE262.out) | exact HB.out)) hb); clear BK256; clear BK257; clear BK262; clear HB; have BK256 := n0_; have BK257 := n1_; have BK262 := n2_; have HB := n3_; clear n0_ n1_ n2_ n3_; (try clear hb); (try clear hb2); (try clear hk); (try clear hi); have hcz32_0 : w31.cell? ⟨gb262, 0, none⟩ = some (.int .i64 t258) := (blk_cell BK262.out 0).trans rfl; have hcz32_1 : w31.cell? ⟨gb262, 1, none⟩ = some (.int .i64 t259) := (blk_cell BK262.out 1).trans rfl; have hcz32_2 : w31.cell? ⟨gb262, 2, none⟩ = some (.int .i64 t260) := (blk_cell BK262.out 2).trans rfl; have hcz32_3 : w31.cell? ⟨gb262, 3, none⟩ = some (.int .i64 t261) := (blk_cell BK262.out 3).trans rfl; have hfz32_0 := blk_frozen BK262.out 0; have hfz32_1 := blk_frozen BK262.out 1; have hfz32_2 := blk_frozen BK262.out 2; have hfz32_3 := blk_frozen BK262.out 3) | ((with_reducible refine gate_callee (f := 67) rfl ?_); refine goesL_ (some 13) rfl rfl Try.func67 (by kernel_rfl) rfl #[.agg #[.int .i64 t258, .int .i64 t259, .int .i64 t260, .int .i64 t261]] rfl (by (try simp only [List.map_toArray, List.map_cons, List.map_nil]); first | done | rfl | (simp only [List.length_drop, List.length_take]; rfl)) ?_; (with_reducible refine (decoupageref02_Empty.calls t258 t259 t260 t261 true _ A18.out).mono ?_); rintro e w33 ⟨rfl, hb⟩; refine ⟨_, rfl, ?_⟩; have n0_ := Aside0.mk (blk_below (g := gb256) (o := .cells #[.int .i64 a0_0, .int .i64 a0_1, .int .i64 a0_2, .int .i64 a0_3] 37 (0, 0)) (by (with_reducible repeat (first | refine blk_drewN ?_ _ | refine blk_drew ?_ | refine blk_alloc ?_ _)); exact BK256.out) hb); have n1_ := Aside0.mk (blk_below (g := gb257) (o := .cells #[.int .i64 a1_0, .int .i64 a1_1, .int .i64 a1_2, .int .i64 a1_3] 37 (0, 0)) (by (with_reducible repeat (first | refine blk_drewN ?_ _ | refine blk_drew ?_ | refine blk_alloc ?_ _)); exact BK257.out) hb); have n2_ := Aside0.mk (blk_below (g := gb262) (o := .cells #[.int .i64 t258, .int .i64 t259, .int .i64 t260, .int .i64 t261] 37 (0, 0)) (by (with_reducible repeat (first | refine blk_drewN ?_ _ | refine blk_drew ?_ | refine blk_alloc ?_ _)); exact BK262.out) hb); have n3_ := Aside0.mk (below_step (by repeat (first | (with_reducible first | exact HB.out | apply below_alloc | apply pw_below_drewN | apply below_drew1 | refine below_set ?_ GE256.out | refine below_set ?_ GE257.out | refine below_set ?_ GE262.out) | exact HB.out)) hb); clear BK256; clear BK257; clear BK262; clear HB; have BK256 := n0_; have BK257 := n1_; have BK262 := n2_; have HB := n3_; clear n0_ n1_ n2_ n3_; (try clear hb); (try clear hb2); (try clear hk); (try clear hi); have hcz34_0 : w33.cell? ⟨gb256, 0, none⟩ = some (.int .i64 a0_0) := (blk_cell BK256.out 0).trans rfl; have hcz34_1 : w33.cell? ⟨gb256, 1, none⟩ = some (.int .i64 a0_1) := (blk_cell BK256.out 1).trans rfl; have hcz34_2 : w33.cell? ⟨gb256, 2, none⟩ = some (.int .i64 a0_2) := (blk_cell BK256.out 2).trans rfl; have hcz34_3 : w33.cell? ⟨gb256, 3, none⟩ = some (.int .i64 a0_3) := (blk_cell BK256.out 3).trans rfl; have hfz34_0 := blk_frozen BK256.out 0; have hfz34_1 := blk_frozen BK256.out 1; have hfz34_2 := blk_frozen BK256.out 2; have hfz34_3 := blk_frozen BK256.out 3) | ((with_reducible refine gate_dst (N := 15) rfl ?_); refine Kd.R_lit k37 _ 37 ?hg (N := 15) ?hd (xs := ([(⟨a0_0, a0_1, a0_2, a0_3⟩ : S37)] : List (S37))) (inner := [.int .i64 a0_0, .int .i64 a0_1, .int .i64 a0_2, .int .i64 a0_3]) (ok := fun _ => True) (okp := fun _ => True) ?hr ?hp (fun _ hk => hk) trivial (Below.refl _ _) (Nat.le_refl _) (by simp) ?_; (case hd => rfl); (case hg => rfl); (case hr => first | (go_simp; done) | (go_simp; rfl)); (case hp => exact (Reps.c4 (show Kd.M k37 _ _ _ (⟨a0_0, a0_1, a0_2, a0_3⟩ : S37) [.int .i64 a0_0, .int .i64 a0_1, .int .i64 a0_2, .int .i64 a0_3] from (k37_mkM _ _ _ (⟨a0_0, a0_1, a0_2, a0_3⟩ : S37) )) (Reps.none _ _))); intro v266 w35 ho36 hb hg_ hnew_; clear hg_ hnew_; (first | rw [← Ny265.out] at ho36 | (simp only [Int.reduceToNat] at ho36; rw [← Ny265.out] at ho36)); have n0_ := Aside0.mk (Kd.R_lower (Kd.R_newB (Kd.R_newB (Kd.R_newB ho36 (g := gb256) (o := .cells #[.int .i64 a0_0, .int .i64 a0_1, .int .i64 a0_2, .int .i64 a0_3] 37 (0, 0)) (by (with_reducible repeat (first | refine blk_drewN ?_ _ | refine blk_drew ?_ | refine blk_alloc ?_ _)); exact BK256.out)) (g := gb257) (o := .cells #[.int .i64 a1_0, .int .i64 a1_1, .int .i64 a1_2, .int .i64 a1_3] 37 (0, 0)) (by (with_reducible repeat (first | refine blk_drewN ?_ _ | refine blk_drew ?_ | refine blk_alloc ?_ _)); exact BK257.out)) (g := gb262) (o := .cells #[.int .i64 t258, .int .i64 t259, .int .i64 t260, .int .i64 t261] 37 (0, 0)) (by (with_reducible repeat (first | refine blk_drewN ?_ _ | refine blk_drew ?_ | refine blk_alloc ?_ _)); exact BK262.out)) (below_size (by repeat (first | (with_reducible first | exact HB.out | apply below_alloc | apply pw_below_drewN | apply below_drew1 | refine below_set ?_ GE256.out | refine below_set ?_ GE257.out | refine below_set ?_ GE262.out) | exact HB.out)))); have n1_ := Aside0.mk (blk_below (g := gb256) (o := .cells #[.int .i64 a0_0, .int .i64 a0_1, .int .i64 a0_2, .int .i64 a0_3] 37 (0, 0)) (by (with_reducible repeat (first | refine blk_drewN ?_ _ | refine blk_drew ?_ | refine blk_alloc ?_ _)); exact BK256.out) hb); have n2_ := Aside0.mk (blk_below (g := gb257) (o := .cells #[.int .i64 a1_0, .int .i64 a1_1, .int .i64 a1_2, .int .i64 a1_3] 37 (0, 0)) (by (with_reducible repeat (first | refine blk_drewN ?_ _ | refine blk_drew ?_ | refine blk_alloc ?_ _)); exact BK257.out) hb); have n3_ := Aside0.mk (blk_below (g := gb262) (o := .cells #[.int .i64 t258, .int .i64 t259, .int .i64 t260, .int .i64 t261] 37 (0, 0)) (by (with_reducible repeat (first | refine blk_drewN ?_ _ | refine blk_drew ?_ | refine blk_alloc ?_ _)); exact BK262.out) hb); have n4_ := Aside0.mk (below_step (by repeat (first | (with_reducible first | exact HB.out | apply below_alloc | apply pw_below_drewN | apply below_drew1 | refine below_set ?_ GE256.out | refine below_set ?_ GE257.out | refine below_set ?_ GE262.out) | exact HB.out)) hb); clear BK256; clear BK257; clear BK262; clear HB; have HO267 := n0_; have BK256 := n1_; have BK257 := n2_; have BK262 := n3_; have HB := n4_; clear n0_ n1_ n2_ n3_ n4_; clear hb ho36))
   go_ret
   exact ⟨_, by first | rfl | (simp [errW_none, errW_some] <;> rfl) | (simp [*, errW_none, errW_some] <;> rfl), by (with_reducible repeat (first | apply Kd.R_alloc | apply Kd.R_drewN | apply Kd.R_drew)); exact Kd.R_mono HO267.out (fun _ hk => trivial), by repeat (first | (with_reducible first | exact HB.out | apply below_alloc | apply pw_below_drewN | apply below_drew1 | refine below_set ?_ GE256.out | refine below_set ?_ GE257.out | refine below_set ?_ GE262.out) | exact HB.out)⟩
  ·replace c19 := Bool.eq_false_iff.mpr c19
   subst c19
   have H1 : (if a0_1 < t259 then (if ([] : List (S37)).length < 4398046511104 then (decoupageref02_Cut.j0 k (([] : List (S37)) ++ [(⟨a0_0, a0_1, a0_2, t259⟩ : S37)]) a0_0 a0_1 a0_2 a0_3 t258 t259 t260 t261) else (none)) else (decoupageref02_Cut.j0 k ([] : List (S37)) a0_0 a0_1 a0_2 a0_3 t258 t259 t260 t261)) = some r := by rw [if_neg (show ¬ (false = true) by decide)] at H; exact H
   clear H
   have H := H1
   clear H1
   have HC37 := Aside0.mk H
   clear H
   go_enter Try.func68, Try.ntmps68
   go_upto_if 20 with (first | ((with_reducible refine gate_dst (N := 2) rfl ?_); refine box_event ?hg (N := 2) ?hd (cs := #[.int .i64 a0_0, .int .i64 a0_1, .int .i64 a0_2, .int .i64 a0_3]) (t := 37) ?hr ?_; (case hd => rfl); (case hg => rfl); (case hr => first | (go_simp; done) | (go_simp; rfl)); intro gb256 hg w38 hbox hb; have n0_ := Aside0.mk (below_step (by repeat (first | (with_reducible first | exact HB.out | apply below_alloc | apply pw_below_drewN | apply below_drew1) | exact HB.out)) hb); have n1_ := Aside0.mk (hbox); have n2_ := Aside0.mk ((by rw [hg]; exact (below_size (by repeat (first | (with_reducible first | exact HB.out | apply below_alloc | apply pw_below_drewN | apply below_drew1) | exact HB.out))) : w.heap.size ≤ gb256)); have n3_ := Aside0.mk ((by rw [hg]; exact (below_size (by repeat (first | (with_reducible first | exact HB.out | apply below_alloc | apply pw_below_drewN | apply below_drew1) | exact HB.out))) : w.heap.size ≤ gb256)); clear HB; have HB := n0_; have BK256 := n1_; have GW256 := n2_; have GE256 := n3_; clear n0_ n1_ n2_ n3_; clear hb hbox hg) | ((with_reducible refine gate_dst (N := 3) rfl ?_); refine box_event ?hg (N := 3) ?hd (cs := #[.int .i64 a1_0, .int .i64 a1_1, .int .i64 a1_2, .int .i64 a1_3]) (t := 37) ?hr ?_; (case hd => rfl); (case hg => rfl); (case hr => first | (go_simp; done) | (go_simp; rfl)); intro gb257 hg w39 hbox hb; have n0_ := Aside0.mk (blk_below (g := gb256) (o := .cells #[.int .i64 a0_0, .int .i64 a0_1, .int .i64 a0_2, .int .i64 a0_3] 37 (0, 0)) (by (with_reducible repeat (first | refine blk_drewN ?_ _ | refine blk_drew ?_ | refine blk_alloc ?_ _)); exact BK256.out) hb); have n1_ := Aside0.mk (below_step (by repeat (first | (with_reducible first | exact HB.out | apply below_alloc | apply pw_below_drewN | apply below_drew1 | refine below_set ?_ GE256.out) | exact HB.out)) hb); have n2_ := Aside0.mk (hbox); have n3_ := Aside0.mk ((by rw [hg]; exact (below_size (by repeat (first | (with_reducible first | exact HB.out | apply below_alloc | apply pw_below_drewN | apply below_drew1 | refine below_set ?_ GE256.out) | exact HB.out))) : w.heap.size ≤ gb257)); have n4_ := Aside0.mk ((by rw [hg]; exact (below_size (by repeat (first | (with_reducible first | exact HB.out | apply below_alloc | apply pw_below_drewN | apply below_drew1 | refine below_set ?_ GE256.out) | exact HB.out))) : w.heap.size ≤ gb257)); have n5_ := Aside0.mk ((by rw [hg]; exact Nat.ne_of_lt (blk_lt (g := gb256) (o := .cells #[.int .i64 a0_0, .int .i64 a0_1, .int .i64 a0_2, .int .i64 a0_3] 37 (0, 0)) (by (with_reducible repeat (first | refine blk_drewN ?_ _ | refine blk_drew ?_ | refine blk_alloc ?_ _)); exact BK256.out)) : gb256 ≠ gb257)); have n6_ := Aside0.mk ((by rw [hg]; exact Nat.ne_of_gt (blk_lt (g := gb256) (o := .cells #[.int .i64 a0_0, .int .i64 a0_1, .int .i64 a0_2, .int .i64 a0_3] 37 (0, 0)) (by (with_reducible repeat (first | refine blk_drewN ?_ _ | refine blk_drew ?_ | refine blk_alloc ?_ _)); exact BK256.out)) : gb257 ≠ gb256)); clear BK256; clear HB; have BK256 := n0_; have HB := n1_; have BK257 := n2_; have GW257 := n3_; have GE257 := n4_; have NB256_257 := n5_; have NB257_256 := n6_; clear n0_ n1_ n2_ n3_ n4_ n5_ n6_; clear hb hbox hg; have hnb40 := NB256_257.out; have hnc40 := NB257_256.out; have hcz41_0 : w39.cell? ⟨gb256, 0, none⟩ = some (.int .i64 a0_0) := (blk_cell BK256.out 0).trans rfl; have hcz41_1 : w39.cell? ⟨gb256, 1, none⟩ = some (.int .i64 a0_1) := (blk_cell BK256.out 1).trans rfl; have hcz41_2 : w39.cell? ⟨gb256, 2, none⟩ = some (.int .i64 a0_2) := (blk_cell BK256.out 2).trans rfl; have hcz41_3 : w39.cell? ⟨gb256, 3, none⟩ = some (.int .i64 a0_3) := (blk_cell BK256.out 3).trans rfl; have hfz41_0 := blk_frozen BK256.out 0; have hfz41_1 := blk_frozen BK256.out 1; have hfz41_2 := blk_frozen BK256.out 2; have hfz41_3 := blk_frozen BK256.out 3; have hcz42_0 : w39.cell? ⟨gb257, 0, none⟩ = some (.int .i64 a1_0) := (blk_cell BK257.out 0).trans rfl; have hcz42_1 : w39.cell? ⟨gb257, 1, none⟩ = some (.int .i64 a1_1) := (blk_cell BK257.out 1).trans rfl; have hcz42_2 : w39.cell? ⟨gb257, 2, none⟩ = some (.int .i64 a1_2) := (blk_cell BK257.out 2).trans rfl; have hcz42_3 : w39.cell? ⟨gb257, 3, none⟩ = some (.int .i64 a1_3) := (blk_cell BK257.out 3).trans rfl; have hfz42_0 := blk_frozen BK257.out 0; have hfz42_1 := blk_frozen BK257.out 1; have hfz42_2 := blk_frozen BK257.out 2; have hfz42_3 := blk_frozen BK257.out 3) | ((with_reducible refine gate_callee (f := 59) rfl ?_); refine goesL_ (some 9) rfl rfl Try.func59 (by kernel_rfl) rfl #[.agg #[.int .i64 a0_0, .int .i64 a0_1, .int .i64 a0_2, .int .i64 a0_3], .agg #[.int .i64 a1_0, .int .i64 a1_1, .int .i64 a1_2, .int .i64 a1_3]] rfl (by (try simp only [List.map_toArray, List.map_cons, List.map_nil]); first | done | rfl | (simp only [List.length_drop, List.length_take]; rfl)) ?_; (with_reducible refine (decoupageref02_Meet.calls k a0_0 a0_1 a0_2 a0_3 a1_0 a1_1 a1_2 a1_3 t258 t259 t260 t261 _ A3.out).mono ?_); rintro e w43 ⟨rfl, hb⟩; refine ⟨_, rfl, ?_⟩; have n0_ := Aside0.mk (blk_below (g := gb256) (o := .cells #[.int .i64 a0_0, .int .i64 a0_1, .int .i64 a0_2, .int .i64 a0_3] 37 (0, 0)) (by (with_reducible repeat (first | refine blk_drewN ?_ _ | refine blk_drew ?_ | refine blk_alloc ?_ _)); exact BK256.out) hb); have n1_ := Aside0.mk (blk_below (g := gb257) (o := .cells #[.int .i64 a1_0, .int .i64 a1_1, .int .i64 a1_2, .int .i64 a1_3] 37 (0, 0)) (by (with_reducible repeat (first | refine blk_drewN ?_ _ | refine blk_drew ?_ | refine blk_alloc ?_ _)); exact BK257.out) hb); have n2_ := Aside0.mk (below_step (by repeat (first | (with_reducible first | exact HB.out | apply below_alloc | apply pw_below_drewN | apply below_drew1 | refine below_set ?_ GE256.out | refine below_set ?_ GE257.out) | exact HB.out)) hb); clear BK256; clear BK257; clear HB; have BK256 := n0_; have BK257 := n1_; have HB := n2_; clear n0_ n1_ n2_; (try clear hb); (try clear hb2); (try clear hk); (try clear hi)) | ((with_reducible refine gate_dst (N := 6) rfl ?_); refine box_event ?hg (N := 6) ?hd (cs := #[.int .i64 0, .int .i64 0, .int .i64 0, .int .i64 0]) (t := 37) ?hr ?_; (case hd => rfl); (case hg => rfl); (case hr => first | (go_simp; done) | (go_simp; rfl)); intro gb262 hg w44 hbox hb; have n0_ := Aside0.mk (blk_below (g := gb256) (o := .cells #[.int .i64 a0_0, .int .i64 a0_1, .int .i64 a0_2, .int .i64 a0_3] 37 (0, 0)) (by (with_reducible repeat (first | refine blk_drewN ?_ _ | refine blk_drew ?_ | refine blk_alloc ?_ _)); exact BK256.out) hb); have n1_ := Aside0.mk (blk_below (g := gb257) (o := .cells #[.int .i64 a1_0, .int .i64 a1_1, .int .i64 a1_2, .int .i64 a1_3] 37 (0, 0)) (by (with_reducible repeat (first | refine blk_drewN ?_ _ | refine blk_drew ?_ | refine blk_alloc ?_ _)); exact BK257.out) hb); have n2_ := Aside0.mk (below_step (by repeat (first | (with_reducible first | exact HB.out | apply below_alloc | apply pw_below_drewN | apply below_drew1 | refine below_set ?_ GE256.out | refine below_set ?_ GE257.out) | exact HB.out)) hb); have n3_ := Aside0.mk (hbox); have n4_ := Aside0.mk ((by rw [hg]; exact (below_size (by repeat (first | (with_reducible first | exact HB.out | apply below_alloc | apply pw_below_drewN | apply below_drew1 | refine below_set ?_ GE256.out | refine below_set ?_ GE257.out) | exact HB.out))) : w.heap.size ≤ gb262)); have n5_ := Aside0.mk ((by rw [hg]; exact (below_size (by repeat (first | (with_reducible first | exact HB.out | apply below_alloc | apply pw_below_drewN | apply below_drew1 | refine below_set ?_ GE256.out | refine below_set ?_ GE257.out) | exact HB.out))) : w.heap.size ≤ gb262)); have n6_ := Aside0.mk ((by rw [hg]; exact Nat.ne_of_lt (blk_lt (g := gb256) (o := .cells #[.int .i64 a0_0, .int .i64 a0_1, .int .i64 a0_2, .int .i64 a0_3] 37 (0, 0)) (by (with_reducible repeat (first | refine blk_drewN ?_ _ | refine blk_drew ?_ | refine blk_alloc ?_ _)); exact BK256.out)) : gb256 ≠ gb262)); have n7_ := Aside0.mk ((by rw [hg]; exact Nat.ne_of_gt (blk_lt (g := gb256) (o := .cells #[.int .i64 a0_0, .int .i64 a0_1, .int .i64 a0_2, .int .i64 a0_3] 37 (0, 0)) (by (with_reducible repeat (first | refine blk_drewN ?_ _ | refine blk_drew ?_ | refine blk_alloc ?_ _)); exact BK256.out)) : gb262 ≠ gb256)); have n8_ := Aside0.mk ((by rw [hg]; exact Nat.ne_of_lt (blk_lt (g := gb257) (o := .cells #[.int .i64 a1_0, .int .i64 a1_1, .int .i64 a1_2, .int .i64 a1_3] 37 (0, 0)) (by (with_reducible repeat (first | refine blk_drewN ?_ _ | refine blk_drew ?_ | refine blk_alloc ?_ _)); exact BK257.out)) : gb257 ≠ gb262)); have n9_ := Aside0.mk ((by rw [hg]; exact Nat.ne_of_gt (blk_lt (g := gb257) (o := .cells #[.int .i64 a1_0, .int .i64 a1_1, .int .i64 a1_2, .int .i64 a1_3] 37 (0, 0)) (by (with_reducible repeat (first | refine blk_drewN ?_ _ | refine blk_drew ?_ | refine blk_alloc ?_ _)); exact BK257.out)) : gb262 ≠ gb257)); clear BK256; clear BK257; clear HB; have BK256 := n0_; have BK257 := n1_; have HB := n2_; have BK262 := n3_; have GW262 := n4_; have GE262 := n5_; have NB256_262 := n6_; have NB262_256 := n7_; have NB257_262 := n8_; have NB262_257 := n9_; clear n0_ n1_ n2_ n3_ n4_ n5_ n6_ n7_ n8_ n9_; clear hb hbox hg; have hnb45 := NB262_256.out; have hnc45 := NB256_262.out; have hnb46 := NB262_257.out; have hnc46 := NB257_262.out; have hcz47_0 : w44.cell? ⟨gb262, 0, none⟩ = some (.int .i64 0) := (blk_cell BK262.out 0).trans rfl; have hcz47_1 : w44.cell? ⟨gb262, 1, none⟩ = some (.int .i64 0) := (blk_cell BK262.out 1).trans rfl; have hcz47_2 : w44.cell? ⟨gb262, 2, none⟩ = some (.int .i64 0) := (blk_cell BK262.out 2).trans rfl; have hcz47_3 : w44.cell? ⟨gb262, 3, none⟩ = some (.int .i64 0) := (blk_cell BK262.out 3).trans rfl; have hfz47_0 := blk_frozen BK262.out 0; have hfz47_1 := blk_frozen BK262.out 1; have hfz47_2 := blk_frozen BK262.out 2; have hfz47_3 := blk_frozen BK262.out 3; have hcz48_0 : w44.cell? ⟨gb256, 0, none⟩ = some (.int .i64 a0_0) := (blk_cell BK256.out 0).trans rfl; have hcz48_1 : w44.cell? ⟨gb256, 1, none⟩ = some (.int .i64 a0_1) := (blk_cell BK256.out 1).trans rfl; have hcz48_2 : w44.cell? ⟨gb256, 2, none⟩ = some (.int .i64 a0_2) := (blk_cell BK256.out 2).trans rfl; have hcz48_3 : w44.cell? ⟨gb256, 3, none⟩ = some (.int .i64 a0_3) := (blk_cell BK256.out 3).trans rfl; have hfz48_0 := blk_frozen BK256.out 0; have hfz48_1 := blk_frozen BK256.out 1; have hfz48_2 := blk_frozen BK256.out 2; have hfz48_3 := blk_frozen BK256.out 3) | ((with_reducible refine gate_callee (f := 67) rfl ?_); refine goesL_ (some 11) rfl rfl Try.func67 (by kernel_rfl) rfl #[.agg #[.int .i64 a0_0, .int .i64 a0_1, .int .i64 a0_2, .int .i64 a0_3]] rfl (by (try simp only [List.map_toArray, List.map_cons, List.map_nil]); first | done | rfl | (simp only [List.length_drop, List.length_take]; rfl)) ?_; (with_reducible refine (decoupageref02_Empty.calls a0_0 a0_1 a0_2 a0_3 false _ A4.out).mono ?_); rintro e w49 ⟨rfl, hb⟩; refine ⟨_, rfl, ?_⟩; have n0_ := Aside0.mk (blk_below (g := gb256) (o := .cells #[.int .i64 a0_0, .int .i64 a0_1, .int .i64 a0_2, .int .i64 a0_3] 37 (0, 0)) (by (with_reducible repeat (first | refine blk_drewN ?_ _ | refine blk_drew ?_ | refine blk_alloc ?_ _)); refine blk_far ?_ NB256_262.out _; (with_reducible repeat (first | refine blk_drewN ?_ _ | refine blk_drew ?_ | refine blk_alloc ?_ _)); refine blk_far ?_ NB256_262.out _; (with_reducible repeat (first | refine blk_drewN ?_ _ | refine blk_drew ?_ | refine blk_alloc ?_ _)); refine blk_far ?_ NB256_262.out _; (with_reducible repeat (first | refine blk_drewN ?_ _ | refine blk_drew ?_ | refine blk_alloc ?_ _)); refine blk_far ?_ NB256_262.out _; (with_reducible repeat (first | refine blk_drewN ?_ _ | refine blk_drew ?_ | refine blk_alloc ?_ _)); exact BK256.out) hb); have n1_ := Aside0.mk (blk_below (g := gb257) (o := .cells #[.int .i64 a1_0, .int .i64 a1_1, .int .i64 a1_2, .int .i64 a1_3] 37 (0, 0)) (by (with_reducible repeat (first | refine blk_drewN ?_ _ | refine blk_drew ?_ | refine blk_alloc ?_ _)); refine blk_far ?_ NB257_262.out _; (with_reducible repeat (first | refine blk_drewN ?_ _ | refine blk_drew ?_ | refine blk_alloc ?_ _)); refine blk_far ?_ NB257_262.out _; (with_reducible repeat (first | refine blk_drewN ?_ _ | refine blk_drew ?_ | refine blk_alloc ?_ _)); refine blk_far ?_ NB257_262.out _; (with_reducible repeat (first | refine blk_drewN ?_ _ | refine blk_drew ?_ | refine blk_alloc ?_ _)); refine blk_far ?_ NB257_262.out _; (with_reducible repeat (first | refine blk_drewN ?_ _ | refine blk_drew ?_ | refine blk_alloc ?_ _)); exact BK257.out) hb); have n2_ := Aside0.mk (blk_below (g := gb262) (o := .cells #[.int .i64 t258, .int .i64 t259, .int .i64 t260, .int .i64 t261] 37 (0, 0)) (by (with_reducible repeat (first | refine blk_drewN ?_ _ | refine blk_drew ?_ | refine blk_alloc ?_ _)); refine blk_put (cs := #[.int .i64 t258, .int .i64 t259, .int .i64 t260, .int .i64 0]) ?_ 3 _ rfl; (with_reducible repeat (first | refine blk_drewN ?_ _ | refine blk_drew ?_ | refine blk_alloc ?_ _)); refine blk_put (cs := #[.int .i64 t258, .int .i64 t259, .int .i64 0, .int .i64 0]) ?_ 2 _ rfl; (with_reducible repeat (first | refine blk_drewN ?_ _ | refine blk_drew ?_ | refine blk_alloc ?_ _)); refine blk_put (cs := #[.int .i64 t258, .int .i64 0, .int .i64 0, .int .i64 0]) ?_ 1 _ rfl; (with_reducible repeat (first | refine blk_drewN ?_ _ | refine blk_drew ?_ | refine blk_alloc ?_ _)); refine blk_put (cs := #[.int .i64 0, .int .i64 0, .int .i64 0, .int .i64 0]) ?_ 0 _ rfl; (with_reducible repeat (first | refine blk_drewN ?_ _ | refine blk_drew ?_ | refine blk_alloc ?_ _)); exact BK262.out) hb); have n3_ := Aside0.mk (below_step (by repeat (first | (with_reducible first | exact HB.out | apply below_alloc | apply pw_below_drewN | apply below_drew1 | refine below_set ?_ GE256.out | refine below_set ?_ GE257.out | refine below_set ?_ GE262.out) | exact HB.out)) hb); clear BK256; clear BK257; clear BK262; clear HB; have BK256 := n0_; have BK257 := n1_; have BK262 := n2_; have HB := n3_; clear n0_ n1_ n2_ n3_; (try clear hb); (try clear hb2); (try clear hk); (try clear hi); have hcz50_0 : w49.cell? ⟨gb262, 0, none⟩ = some (.int .i64 t258) := (blk_cell BK262.out 0).trans rfl; have hcz50_1 : w49.cell? ⟨gb262, 1, none⟩ = some (.int .i64 t259) := (blk_cell BK262.out 1).trans rfl; have hcz50_2 : w49.cell? ⟨gb262, 2, none⟩ = some (.int .i64 t260) := (blk_cell BK262.out 2).trans rfl; have hcz50_3 : w49.cell? ⟨gb262, 3, none⟩ = some (.int .i64 t261) := (blk_cell BK262.out 3).trans rfl; have hfz50_0 := blk_frozen BK262.out 0; have hfz50_1 := blk_frozen BK262.out 1; have hfz50_2 := blk_frozen BK262.out 2; have hfz50_3 := blk_frozen BK262.out 3) | ((with_reducible refine gate_callee (f := 67) rfl ?_); refine goesL_ (some 13) rfl rfl Try.func67 (by kernel_rfl) rfl #[.agg #[.int .i64 t258, .int .i64 t259, .int .i64 t260, .int .i64 t261]] rfl (by (try simp only [List.map_toArray, List.map_cons, List.map_nil]); first | done | rfl | (simp only [List.length_drop, List.length_take]; rfl)) ?_; (with_reducible refine (decoupageref02_Empty.calls t258 t259 t260 t261 false _ A18.out).mono ?_); rintro e w51 ⟨rfl, hb⟩; refine ⟨_, rfl, ?_⟩; have n0_ := Aside0.mk (blk_below (g := gb256) (o := .cells #[.int .i64 a0_0, .int .i64 a0_1, .int .i64 a0_2, .int .i64 a0_3] 37 (0, 0)) (by (with_reducible repeat (first | refine blk_drewN ?_ _ | refine blk_drew ?_ | refine blk_alloc ?_ _)); exact BK256.out) hb); have n1_ := Aside0.mk (blk_below (g := gb257) (o := .cells #[.int .i64 a1_0, .int .i64 a1_1, .int .i64 a1_2, .int .i64 a1_3] 37 (0, 0)) (by (with_reducible repeat (first | refine blk_drewN ?_ _ | refine blk_drew ?_ | refine blk_alloc ?_ _)); exact BK257.out) hb); have n2_ := Aside0.mk (blk_below (g := gb262) (o := .cells #[.int .i64 t258, .int .i64 t259, .int .i64 t260, .int .i64 t261] 37 (0, 0)) (by (with_reducible repeat (first | refine blk_drewN ?_ _ | refine blk_drew ?_ | refine blk_alloc ?_ _)); exact BK262.out) hb); have n3_ := Aside0.mk (below_step (by repeat (first | (with_reducible first | exact HB.out | apply below_alloc | apply pw_below_drewN | apply below_drew1 | refine below_set ?_ GE256.out | refine below_set ?_ GE257.out | refine below_set ?_ GE262.out) | exact HB.out)) hb); clear BK256; clear BK257; clear BK262; clear HB; have BK256 := n0_; have BK257 := n1_; have BK262 := n2_; have HB := n3_; clear n0_ n1_ n2_ n3_; (try clear hb); (try clear hb2); (try clear hk); (try clear hi); have hcz52_0 : w51.cell? ⟨gb256, 0, none⟩ = some (.int .i64 a0_0) := (blk_cell BK256.out 0).trans rfl; have hcz52_1 : w51.cell? ⟨gb256, 1, none⟩ = some (.int .i64 a0_1) := (blk_cell BK256.out 1).trans rfl; have hcz52_2 : w51.cell? ⟨gb256, 2, none⟩ = some (.int .i64 a0_2) := (blk_cell BK256.out 2).trans rfl; have hcz52_3 : w51.cell? ⟨gb256, 3, none⟩ = some (.int .i64 a0_3) := (blk_cell BK256.out 3).trans rfl; have hfz52_0 := blk_frozen BK256.out 0; have hfz52_1 := blk_frozen BK256.out 1; have hfz52_2 := blk_frozen BK256.out 2; have hfz52_3 := blk_frozen BK256.out 3; have hcz53_0 : w51.cell? ⟨gb262, 0, none⟩ = some (.int .i64 t258) := (blk_cell BK262.out 0).trans rfl; have hcz53_1 : w51.cell? ⟨gb262, 1, none⟩ = some (.int .i64 t259) := (blk_cell BK262.out 1).trans rfl; have hcz53_2 : w51.cell? ⟨gb262, 2, none⟩ = some (.int .i64 t260) := (blk_cell BK262.out 2).trans rfl; have hcz53_3 : w51.cell? ⟨gb262, 3, none⟩ = some (.int .i64 t261) := (blk_cell BK262.out 3).trans rfl; have hfz53_0 := blk_frozen BK262.out 0; have hfz53_1 := blk_frozen BK262.out 1; have hfz53_2 := blk_frozen BK262.out 2; have hfz53_3 := blk_frozen BK262.out 3))
   (try simp only [Act.put, List.setIfInBounds_toArray, List.set_cons_zero, List.set_cons_succ])
   go_cut [5] (fun v5 wc => ∃ (kq : Nat) (x5_36 : List (S37)), Aside0 (decoupageref02_Cut.j0 kq x5_36 a0_0 a0_1 a0_2 a0_3 t258 t259 t260 t261 = some r) ∧ Aside0 (kq ≤ k) ∧ Aside0 (Kd.R k37 37 wc w.heap.size (fun k_ => k_ ≠ gb256 ∧ k_ ≠ gb257 ∧ k_ ≠ gb262) v5 x5_36) ∧ Aside0 (wc.heap[gb256]? = some (.cells #[.int .i64 a0_0, .int .i64 a0_1, .int .i64 a0_2, .int .i64 a0_3] 37 (0, 0))) ∧ Aside0 (wc.heap[gb257]? = some (.cells #[.int .i64 a1_0, .int .i64 a1_1, .int .i64 a1_2, .int .i64 a1_3] 37 (0, 0))) ∧ Aside0 (wc.heap[gb262]? = some (.cells #[.int .i64 t258, .int .i64 t259, .int .i64 t260, .int .i64 t261] 37 (0, 0))) ∧ Aside0 (Below w.heap.size w wc))
   case first =>
    have H := HC37.out
    clear HC37
    by_cases c54 : a0_1 < t259
    ·rw [if_pos c54] at H
     have c54b0 : decide (a0_1 < t259) = true := decide_eq_true c54
     clear c54
     (first | rw [c54b0] | (simp only [i64_w, i32_w]; rw [c54b0]) | skip)
     by_cases c55 : ([] : List (S37)).length < 4398046511104
     ·rw [if_pos c55] at H
      have LMc55 := Aside0.mk c55
      clear c55
      obtain ⟨y268, hy268⟩ : ∃ y_ : List (S37), y_ = (([] : List (S37)) ++ [(⟨a0_0, a0_1, a0_2, t259⟩ : S37)]) := ⟨_, rfl⟩
      replace H : (decoupageref02_Cut.j0 k y268 a0_0 a0_1 a0_2 a0_3 t258 t259 t260 t261) = some r := by first | (rw [hy268]; with_reducible exact H) | (have H2_ := (Option.bind_some _ _).symm.trans H; rw [hy268]; with_reducible exact H2_) | (have H2_ := (Option.bind_some _ _).symm.trans H; with_reducible exact H2_) | with_reducible exact H | (rw [hy268]; exact H) | exact H
      have Ny268 := Aside0.mk hy268
      clear hy268
      have H' := Aside0.mk H
      clear H
      have hnb56 := NB256_257.out
      have hnc56 := NB257_256.out
      have hnb57 := NB256_262.out
      have hnc57 := NB262_256.out
      have hcz58_0 : w51.cell? ⟨gb256, 0, none⟩ = some (.int .i64 a0_0) := (blk_cell BK256.out 0).trans rfl
      have hcz58_1 : w51.cell? ⟨gb256, 1, none⟩ = some (.int .i64 a0_1) := (blk_cell BK256.out 1).trans rfl
      have hcz58_2 : w51.cell? ⟨gb256, 2, none⟩ = some (.int .i64 a0_2) := (blk_cell BK256.out 2).trans rfl
      have hcz58_3 : w51.cell? ⟨gb256, 3, none⟩ = some (.int .i64 a0_3) := (blk_cell BK256.out 3).trans rfl
      have hfz58_0 := blk_frozen BK256.out 0
      have hfz58_1 := blk_frozen BK256.out 1
      have hfz58_2 := blk_frozen BK256.out 2
      have hfz58_3 := blk_frozen BK256.out 3
      have hnb59 := NB262_257.out
      have hnc59 := NB257_262.out
      have hcz60_0 : w51.cell? ⟨gb262, 0, none⟩ = some (.int .i64 t258) := (blk_cell BK262.out 0).trans rfl
      have hcz60_1 : w51.cell? ⟨gb262, 1, none⟩ = some (.int .i64 t259) := (blk_cell BK262.out 1).trans rfl
      have hcz60_2 : w51.cell? ⟨gb262, 2, none⟩ = some (.int .i64 t260) := (blk_cell BK262.out 2).trans rfl
      have hcz60_3 : w51.cell? ⟨gb262, 3, none⟩ = some (.int .i64 t261) := (blk_cell BK262.out 3).trans rfl
      have hfz60_0 := blk_frozen BK262.out 0
      have hfz60_1 := blk_frozen BK262.out 1
      have hfz60_2 := blk_frozen BK262.out 2
      have hfz60_3 := blk_frozen BK262.out 3
      go_wp2_with (first | ((with_reducible refine gate_builtin (b := .append) (xs := #[.tmp 21, .tmp 31]) rfl ?_); at_builtin; refine Kd.R_append k37 (w0 := w) w.heap.size rfl (.tmp 21) (.tmp 31) 29 37 (.agg #[(.int .i64 0), (.int .i64 0), (.int .i64 0), (.int .i64 0)]) 32 rfl Try.underlying29 info37 rfl (by decide) (by omega) (.slice none 0 0) ([] : List (S37)) (⟨a0_0, a0_1, a0_2, t259⟩ : S37) [.int .i64 a0_0, .int .i64 a0_1, .int .i64 a0_2, .int .i64 t259] (fun k_ => k_ ≠ gb256 ∧ k_ ≠ gb257 ∧ k_ ≠ gb262) (fun _ => False) rfl rfl ?aP (fun _ hk => hk.elim) ?aF ?aO ?aB ?aS ?aL ?_; (case aP => exact k37_mkM _ _ _ (⟨a0_0, a0_1, a0_2, t259⟩ : S37)); (case aB => exact (by repeat (first | (with_reducible first | exact HB.out | apply below_alloc | apply pw_below_drewN | apply below_drew1 | refine below_set ?_ GE256.out | refine below_set ?_ GE257.out | refine below_set ?_ GE262.out) | exact HB.out))); (case aF => exact (fun k_ hk => ⟨Kd.freshB (g := gb256) (o := .cells #[.int .i64 a0_0, .int .i64 a0_1, .int .i64 a0_2, .int .i64 a0_3] 37 (0, 0)) (by (with_reducible repeat (first | refine blk_drewN ?_ _ | refine blk_drew ?_ | refine blk_alloc ?_ _)); exact BK256.out) k_ hk, Kd.freshB (g := gb257) (o := .cells #[.int .i64 a1_0, .int .i64 a1_1, .int .i64 a1_2, .int .i64 a1_3] 37 (0, 0)) (by (with_reducible repeat (first | refine blk_drewN ?_ _ | refine blk_drew ?_ | refine blk_alloc ?_ _)); exact BK257.out) k_ hk, Kd.freshB (g := gb262) (o := .cells #[.int .i64 t258, .int .i64 t259, .int .i64 t260, .int .i64 t261] 37 (0, 0)) (by (with_reducible repeat (first | refine blk_drewN ?_ _ | refine blk_drew ?_ | refine blk_alloc ?_ _)); exact BK262.out) k_ hk⟩)); (case aO => exact ((Kd.R_nil _ _ _ _ (fun k_ => k_ ≠ gb256 ∧ k_ ≠ gb257 ∧ k_ ≠ gb262)))); (case aS => exact (below_size (by repeat (first | (with_reducible first | exact HB.out | apply below_alloc | apply pw_below_drewN | apply below_drew1 | refine below_set ?_ GE256.out | refine below_set ?_ GE257.out | refine below_set ?_ GE262.out) | exact HB.out)))); (case aL => have := LMc55.out; omega); intro v269 w61 ho hb hg hat; rw [← Ny268.out] at ho; have n0_ := Aside0.mk (blk_grown (g := gb256) (o := .cells #[.int .i64 a0_0, .int .i64 a0_1, .int .i64 a0_2, .int .i64 a0_3] 37 (0, 0)) (by (with_reducible repeat (first | refine blk_drewN ?_ _ | refine blk_drew ?_ | refine blk_alloc ?_ _)); exact BK256.out) hg (by simp [Value.ownBlock])); have n1_ := Aside0.mk (blk_grown (g := gb257) (o := .cells #[.int .i64 a1_0, .int .i64 a1_1, .int .i64 a1_2, .int .i64 a1_3] 37 (0, 0)) (by (with_reducible repeat (first | refine blk_drewN ?_ _ | refine blk_drew ?_ | refine blk_alloc ?_ _)); exact BK257.out) hg (by simp [Value.ownBlock])); have n2_ := Aside0.mk (blk_grown (g := gb262) (o := .cells #[.int .i64 t258, .int .i64 t259, .int .i64 t260, .int .i64 t261] 37 (0, 0)) (by (with_reducible repeat (first | refine blk_drewN ?_ _ | refine blk_drew ?_ | refine blk_alloc ?_ _)); exact BK262.out) hg (by simp [Value.ownBlock])); have n3_ := Aside0.mk (hb); have n4_ := Aside0.mk (ho); clear BK256; clear BK257; clear BK262; clear HB; have BK256 := n0_; have BK257 := n1_; have BK262 := n2_; have HB := n3_; have HO270 := n4_; clear n0_ n1_ n2_ n3_ n4_; clear ho hb hg hat))
      go_meet
      case rel => exact ⟨_, (y268), H', ⟨by first | omega | exact Nat.le_refl _⟩, ⟨by (with_reducible repeat (first | apply Kd.R_alloc | apply Kd.R_drewN | apply Kd.R_drew)); exact HO270.out⟩, ⟨by (with_reducible repeat (first | refine blk_drewN ?_ _ | refine blk_drew ?_ | refine blk_alloc ?_ _)); exact BK256.out⟩, ⟨by (with_reducible repeat (first | refine blk_drewN ?_ _ | refine blk_drew ?_ | refine blk_alloc ?_ _)); exact BK257.out⟩, ⟨by (with_reducible repeat (first | refine blk_drewN ?_ _ | refine blk_drew ?_ | refine blk_alloc ?_ _)); exact BK262.out⟩, ⟨by repeat (first | (with_reducible first | exact HB.out | apply below_alloc | apply pw_below_drewN | apply below_drew1 | refine below_set ?_ GE256.out | refine below_set ?_ GE257.out | refine below_set ?_ GE262.out) | exact HB.out)⟩⟩
     ·rw [if_neg c55] at H
      exact absurd H (by simp)
    ·rw [if_neg c54] at H
     have c54b0 : decide (a0_1 < t259) = false := decide_eq_false c54
     clear c54
     (first | rw [c54b0] | (simp only [i64_w, i32_w]; rw [c54b0]) | skip)
     have H' := Aside0.mk H
     clear H
     go_wp2
     go_meet
     case rel => exact ⟨_, (([] : List (S37))), H', ⟨by first | omega | exact Nat.le_refl _⟩, ⟨by first | exact Kd.R_nil _ _ _ _ _ | exact Kd.N_nil _ _ _ _ _ | exact Kd.V_nil _ _ _ _ _ | exact Kd.Q_nil _ _ _ _ _ | exact Kd.S_nil _ _ _ _ _⟩, ⟨by (with_reducible repeat (first | refine blk_drewN ?_ _ | refine blk_drew ?_ | refine blk_alloc ?_ _)); exact BK256.out⟩, ⟨by (with_reducible repeat (first | refine blk_drewN ?_ _ | refine blk_drew ?_ | refine blk_alloc ?_ _)); exact BK257.out⟩, ⟨by (with_reducible repeat (first | refine blk_drewN ?_ _ | refine blk_drew ?_ | refine blk_alloc ?_ _)); exact BK262.out⟩, ⟨by repeat (first | (with_reducible first | exact HB.out | apply below_alloc | apply pw_below_drewN | apply below_drew1 | refine below_set ?_ GE256.out | refine below_set ?_ GE257.out | refine below_set ?_ GE262.out) | exact HB.out)⟩⟩
   case rest =>
    clear HC37
    try clear c1
    try clear c2
    try clear p2
    try clear c4
    try clear c5
    try clear c6
    try clear c8
    try clear c13
    try clear c14
    try clear c19
    try clear c22
    try clear c27
    try clear c28
    try clear c40
    try clear c45
    try clear c46
    try clear c54
    try clear c54b0
    try clear c55
    try clear c56
    try clear c57
    try clear c59
    try clear hcz10_0
    try clear hcz10_1
    try clear hcz10_2
    try clear hcz10_3
    try clear hcz15_0
    try clear hcz15_1
    try clear hcz15_2
    try clear hcz15_3
    try clear hcz16_0
    try clear hcz16_1
    try clear hcz16_2
    try clear hcz16_3
    try clear hcz23_0
    try clear hcz23_1
    try clear hcz23_2
    try clear hcz23_3
    try clear hcz24_0
    try clear hcz24_1
    try clear hcz24_2
    try clear hcz24_3
    try clear hcz29_0
    try clear hcz29_1
    try clear hcz29_2
    try clear hcz29_3
    try clear hcz30_0
    try clear hcz30_1
    try clear hcz30_2
    try clear hcz30_3
    try clear hcz32_0
    try clear hcz32_1
    try clear hcz32_2
    try clear hcz32_3
    try clear hcz34_0
    try clear hcz34_1
    try clear hcz34_2
    try clear hcz34_3
    try clear hcz41_0
    try clear hcz41_1
    try clear hcz41_2
    try clear hcz41_3
    try clear hcz42_0
    try clear hcz42_1
    try clear hcz42_2
    try clear hcz42_3
    try clear hcz47_0
    try clear hcz47_1
    try clear hcz47_2
    try clear hcz47_3
    try clear hcz48_0
    try clear hcz48_1
    try clear hcz48_2
    try clear hcz48_3
    try clear hcz50_0
    try clear hcz50_1
    try clear hcz50_2
    try clear hcz50_3
    try clear hcz52_0
    try clear hcz52_1
    try clear hcz52_2
    try clear hcz52_3
    try clear hcz53_0
    try clear hcz53_1
    try clear hcz53_2
    try clear hcz53_3
    try clear hcz58_0
    try clear hcz58_1
    try clear hcz58_2
    try clear hcz58_3
    try clear hcz60_0
    try clear hcz60_1
    try clear hcz60_2
    try clear hcz60_3
    try clear hcz9_0
    try clear hcz9_1
    try clear hcz9_2
    try clear hcz9_3
    try clear hfz10_0
    try clear hfz10_1
    try clear hfz10_2
    try clear hfz10_3
    try clear hfz15_0
    try clear hfz15_1
    try clear hfz15_2
    try clear hfz15_3
    try clear hfz16_0
    try clear hfz16_1
    try clear hfz16_2
    try clear hfz16_3
    try clear hfz23_0
    try clear hfz23_1
    try clear hfz23_2
    try clear hfz23_3
    try clear hfz24_0
    try clear hfz24_1
    try clear hfz24_2
    try clear hfz24_3
    try clear hfz29_0
    try clear hfz29_1
    try clear hfz29_2
    try clear hfz29_3
    try clear hfz30_0
    try clear hfz30_1
    try clear hfz30_2
    try clear hfz30_3
    try clear hfz32_0
    try clear hfz32_1
    try clear hfz32_2
    try clear hfz32_3
    try clear hfz34_0
    try clear hfz34_1
    try clear hfz34_2
    try clear hfz34_3
    try clear hfz41_0
    try clear hfz41_1
    try clear hfz41_2
    try clear hfz41_3
    try clear hfz42_0
    try clear hfz42_1
    try clear hfz42_2
    try clear hfz42_3
    try clear hfz47_0
    try clear hfz47_1
    try clear hfz47_2
    try clear hfz47_3
    try clear hfz48_0
    try clear hfz48_1
    try clear hfz48_2
    try clear hfz48_3
    try clear hfz50_0
    try clear hfz50_1
    try clear hfz50_2
    try clear hfz50_3
    try clear hfz52_0
    try clear hfz52_1
    try clear hfz52_2
    try clear hfz52_3
    try clear hfz53_0
    try clear hfz53_1
    try clear hfz53_2
    try clear hfz53_3
    try clear hfz58_0
    try clear hfz58_1
    try clear hfz58_2
    try clear hfz58_3
    try clear hfz60_0
    try clear hfz60_1
    try clear hfz60_2
    try clear hfz60_3
    try clear hfz9_0
    try clear hfz9_1
    try clear hfz9_2
    try clear hfz9_3
    obtain ⟨kq, x5_36, HA, HJ36, HO_5, BK256, BK257, BK262, HB⟩ := hcut
    cases kq with
    | zero => exact absurd HA.out (by simp [decoupageref02_Cut.j0])
    | succ kj36 =>
     have H := HA.out
     clear HA
     simp only [decoupageref02_Cut.j0] at H
     have HC62 := Aside0.mk H
     clear H
     have hnb63 := NB262_256.out
     have hnc63 := NB256_262.out
     have hnb64 := NB262_257.out
     have hnc64 := NB257_262.out
     have hcz65_0 : wc.cell? ⟨gb262, 0, none⟩ = some (.int .i64 t258) := (blk_cell BK262.out 0).trans rfl
     have hcz65_1 : wc.cell? ⟨gb262, 1, none⟩ = some (.int .i64 t259) := (blk_cell BK262.out 1).trans rfl
     have hcz65_2 : wc.cell? ⟨gb262, 2, none⟩ = some (.int .i64 t260) := (blk_cell BK262.out 2).trans rfl
     have hcz65_3 : wc.cell? ⟨gb262, 3, none⟩ = some (.int .i64 t261) := (blk_cell BK262.out 3).trans rfl
     have hfz65_0 := blk_frozen BK262.out 0
     have hfz65_1 := blk_frozen BK262.out 1
     have hfz65_2 := blk_frozen BK262.out 2
     have hfz65_3 := blk_frozen BK262.out 3
     have hnb66 := NB256_257.out
     have hnc66 := NB257_256.out
     have hcz67_0 : wc.cell? ⟨gb256, 0, none⟩ = some (.int .i64 a0_0) := (blk_cell BK256.out 0).trans rfl
     have hcz67_1 : wc.cell? ⟨gb256, 1, none⟩ = some (.int .i64 a0_1) := (blk_cell BK256.out 1).trans rfl
     have hcz67_2 : wc.cell? ⟨gb256, 2, none⟩ = some (.int .i64 a0_2) := (blk_cell BK256.out 2).trans rfl
     have hcz67_3 : wc.cell? ⟨gb256, 3, none⟩ = some (.int .i64 a0_3) := (blk_cell BK256.out 3).trans rfl
     have hfz67_0 := blk_frozen BK256.out 0
     have hfz67_1 := blk_frozen BK256.out 1
     have hfz67_2 := blk_frozen BK256.out 2
     have hfz67_3 := blk_frozen BK256.out 3
     go_upto_if 37 with (fail)
     go_cut [5] (fun v5 wc => ∃ (kq : Nat) (x5_61 : List (S37)), Aside0 (decoupageref02_Cut.j1 kq x5_61 a0_0 a0_1 a0_2 a0_3 t258 t259 t260 t261 = some r) ∧ Aside0 (kq ≤ kj36) ∧ Aside0 (Kd.R k37 37 wc w.heap.size (fun k_ => k_ ≠ gb256 ∧ k_ ≠ gb257 ∧ k_ ≠ gb262) v5 x5_61) ∧ Aside0 (wc.heap[gb256]? = some (.cells #[.int .i64 a0_0, .int .i64 a0_1, .int .i64 a0_2, .int .i64 a0_3] 37 (0, 0))) ∧ Aside0 (wc.heap[gb257]? = some (.cells #[.int .i64 a1_0, .int .i64 a1_1, .int .i64 a1_2, .int .i64 a1_3] 37 (0, 0))) ∧ Aside0 (wc.heap[gb262]? = some (.cells #[.int .i64 t258, .int .i64 t259, .int .i64 t260, .int .i64 t261] 37 (0, 0))) ∧ Aside0 (Below w.heap.size w wc))
     case first =>
      have H := HC62.out
      clear HC62
      by_cases c68 : t261 < a0_3
      ·rw [if_pos c68] at H
       have c68b0 : decide (t261 < a0_3) = true := decide_eq_true c68
       clear c68
       (first | rw [c68b0] | (simp only [i64_w, i32_w]; rw [c68b0]) | skip)
       by_cases c69 : x5_36.length < 4398046511104
       ·rw [if_pos c69] at H
        have LMc69 := Aside0.mk c69
        clear c69
        obtain ⟨y271, hy271⟩ : ∃ y_ : List (S37), y_ = (x5_36 ++ [(⟨a0_0, t261, a0_2, a0_3⟩ : S37)]) := ⟨_, rfl⟩
        replace H : (decoupageref02_Cut.j1 kj36 y271 a0_0 a0_1 a0_2 a0_3 t258 t259 t260 t261) = some r := by first | (rw [hy271]; with_reducible exact H) | (have H2_ := (Option.bind_some _ _).symm.trans H; rw [hy271]; with_reducible exact H2_) | (have H2_ := (Option.bind_some _ _).symm.trans H; with_reducible exact H2_) | with_reducible exact H | (rw [hy271]; exact H) | exact H
        have Ny271 := Aside0.mk hy271
        clear hy271
        have H' := Aside0.mk H
        clear H
        have hnb70 := NB256_257.out
        have hnc70 := NB257_256.out
        have hnb71 := NB256_262.out
        have hnc71 := NB262_256.out
        have hcz72_0 : wc.cell? ⟨gb256, 0, none⟩ = some (.int .i64 a0_0) := (blk_cell BK256.out 0).trans rfl
        have hcz72_1 : wc.cell? ⟨gb256, 1, none⟩ = some (.int .i64 a0_1) := (blk_cell BK256.out 1).trans rfl
        have hcz72_2 : wc.cell? ⟨gb256, 2, none⟩ = some (.int .i64 a0_2) := (blk_cell BK256.out 2).trans rfl
        have hcz72_3 : wc.cell? ⟨gb256, 3, none⟩ = some (.int .i64 a0_3) := (blk_cell BK256.out 3).trans rfl
        have hfz72_0 := blk_frozen BK256.out 0
        have hfz72_1 := blk_frozen BK256.out 1
        have hfz72_2 := blk_frozen BK256.out 2
        have hfz72_3 := blk_frozen BK256.out 3
        have hnb73 := NB262_257.out
        have hnc73 := NB257_262.out
        have hcz74_0 : wc.cell? ⟨gb262, 0, none⟩ = some (.int .i64 t258) := (blk_cell BK262.out 0).trans rfl
        have hcz74_1 : wc.cell? ⟨gb262, 1, none⟩ = some (.int .i64 t259) := (blk_cell BK262.out 1).trans rfl
        have hcz74_2 : wc.cell? ⟨gb262, 2, none⟩ = some (.int .i64 t260) := (blk_cell BK262.out 2).trans rfl
        have hcz74_3 : wc.cell? ⟨gb262, 3, none⟩ = some (.int .i64 t261) := (blk_cell BK262.out 3).trans rfl
        have hfz74_0 := blk_frozen BK262.out 0
        have hfz74_1 := blk_frozen BK262.out 1
        have hfz74_2 := blk_frozen BK262.out 2
        have hfz74_3 := blk_frozen BK262.out 3
        go_wp2_with (first | ((with_reducible refine gate_builtin (b := .append) (xs := #[.tmp 38, .tmp 48]) rfl ?_); at_builtin; refine Kd.R_append k37 (w0 := w) w.heap.size rfl (.tmp 38) (.tmp 48) 29 37 (.agg #[(.int .i64 0), (.int .i64 0), (.int .i64 0), (.int .i64 0)]) 32 rfl Try.underlying29 info37 rfl (by decide) (by omega) u5 x5_36 (⟨a0_0, t261, a0_2, a0_3⟩ : S37) [.int .i64 a0_0, .int .i64 t261, .int .i64 a0_2, .int .i64 a0_3] (fun k_ => k_ ≠ gb256 ∧ k_ ≠ gb257 ∧ k_ ≠ gb262) (fun _ => False) rfl rfl ?aP (fun _ hk => hk.elim) ?aF ?aO ?aB ?aS ?aL ?_; (case aP => exact k37_mkM _ _ _ (⟨a0_0, t261, a0_2, a0_3⟩ : S37)); (case aB => exact (by repeat (first | (with_reducible first | exact HB.out | apply below_alloc | apply pw_below_drewN | apply below_drew1 | refine below_set ?_ GE256.out | refine below_set ?_ GE257.out | refine below_set ?_ GE262.out) | exact HB.out))); (case aF => exact (fun k_ hk => ⟨Kd.freshB (g := gb256) (o := .cells #[.int .i64 a0_0, .int .i64 a0_1, .int .i64 a0_2, .int .i64 a0_3] 37 (0, 0)) (by (with_reducible repeat (first | refine blk_drewN ?_ _ | refine blk_drew ?_ | refine blk_alloc ?_ _)); exact BK256.out) k_ hk, Kd.freshB (g := gb257) (o := .cells #[.int .i64 a1_0, .int .i64 a1_1, .int .i64 a1_2, .int .i64 a1_3] 37 (0, 0)) (by (with_reducible repeat (first | refine blk_drewN ?_ _ | refine blk_drew ?_ | refine blk_alloc ?_ _)); exact BK257.out) k_ hk, Kd.freshB (g := gb262) (o := .cells #[.int .i64 t258, .int .i64 t259, .int .i64 t260, .int .i64 t261] 37 (0, 0)) (by (with_reducible repeat (first | refine blk_drewN ?_ _ | refine blk_drew ?_ | refine blk_alloc ?_ _)); exact BK262.out) k_ hk⟩)); (case aO => exact (by (with_reducible repeat (first | apply Kd.R_alloc | apply Kd.R_drewN | apply Kd.R_drew)); exact HO_5.out)); (case aS => exact (below_size (by repeat (first | (with_reducible first | exact HB.out | apply below_alloc | apply pw_below_drewN | apply below_drew1 | refine below_set ?_ GE256.out | refine below_set ?_ GE257.out | refine below_set ?_ GE262.out) | exact HB.out)))); (case aL => have := LMc69.out; omega); intro v272 w75 ho hb hg hat; rw [← Ny271.out] at ho; have n0_ := Aside0.mk (blk_grown (g := gb256) (o := .cells #[.int .i64 a0_0, .int .i64 a0_1, .int .i64 a0_2, .int .i64 a0_3] 37 (0, 0)) (by (with_reducible repeat (first | refine blk_drewN ?_ _ | refine blk_drew ?_ | refine blk_alloc ?_ _)); exact BK256.out) hg (Kd.R_away HO_5.out (fun _ hk => hk.1))); have n1_ := Aside0.mk (blk_grown (g := gb257) (o := .cells #[.int .i64 a1_0, .int .i64 a1_1, .int .i64 a1_2, .int .i64 a1_3] 37 (0, 0)) (by (with_reducible repeat (first | refine blk_drewN ?_ _ | refine blk_drew ?_ | refine blk_alloc ?_ _)); exact BK257.out) hg (Kd.R_away HO_5.out (fun _ hk => hk.2.1))); have n2_ := Aside0.mk (blk_grown (g := gb262) (o := .cells #[.int .i64 t258, .int .i64 t259, .int .i64 t260, .int .i64 t261] 37 (0, 0)) (by (with_reducible repeat (first | refine blk_drewN ?_ _ | refine blk_drew ?_ | refine blk_alloc ?_ _)); exact BK262.out) hg (Kd.R_away HO_5.out (fun _ hk => hk.2.2))); have n3_ := Aside0.mk (hb); have n4_ := Aside0.mk (ho); clear BK256; clear BK257; clear BK262; clear HB; clear HO_5; have BK256 := n0_; have BK257 := n1_; have BK262 := n2_; have HB := n3_; have HO273 := n4_; clear n0_ n1_ n2_ n3_ n4_; clear ho hb hg hat))
        go_meet
        case rel => exact ⟨_, (y271), H', ⟨by have := HJ36.out; first | omega | exact Nat.le_refl _⟩, ⟨by (with_reducible repeat (first | apply Kd.R_alloc | apply Kd.R_drewN | apply Kd.R_drew)); exact HO273.out⟩, ⟨by (with_reducible repeat (first | refine blk_drewN ?_ _ | refine blk_drew ?_ | refine blk_alloc ?_ _)); exact BK256.out⟩, ⟨by (with_reducible repeat (first | refine blk_drewN ?_ _ | refine blk_drew ?_ | refine blk_alloc ?_ _)); exact BK257.out⟩, ⟨by (with_reducible repeat (first | refine blk_drewN ?_ _ | refine blk_drew ?_ | refine blk_alloc ?_ _)); exact BK262.out⟩, ⟨by repeat (first | (with_reducible first | exact HB.out | apply below_alloc | apply pw_below_drewN | apply below_drew1 | refine below_set ?_ GE256.out | refine below_set ?_ GE257.out | refine below_set ?_ GE262.out) | exact HB.out)⟩⟩
       ·rw [if_neg c69] at H
        exact absurd H (by simp)
      ·rw [if_neg c68] at H
       have c68b0 : decide (t261 < a0_3) = false := decide_eq_false c68
       clear c68
       (first | rw [c68b0] | (simp only [i64_w, i32_w]; rw [c68b0]) | skip)
       have H' := Aside0.mk H
       clear H
       go_wp2
       go_meet
       case rel => exact ⟨_, (x5_36), H', ⟨by have := HJ36.out; first | omega | exact Nat.le_refl _⟩, ⟨by (with_reducible repeat (first | apply Kd.R_alloc | apply Kd.R_drewN | apply Kd.R_drew)); exact HO_5.out⟩, ⟨by (with_reducible repeat (first | refine blk_drewN ?_ _ | refine blk_drew ?_ | refine blk_alloc ?_ _)); exact BK256.out⟩, ⟨by (with_reducible repeat (first | refine blk_drewN ?_ _ | refine blk_drew ?_ | refine blk_alloc ?_ _)); exact BK257.out⟩, ⟨by (with_reducible repeat (first | refine blk_drewN ?_ _ | refine blk_drew ?_ | refine blk_alloc ?_ _)); exact BK262.out⟩, ⟨by repeat (first | (with_reducible first | exact HB.out | apply below_alloc | apply pw_below_drewN | apply below_drew1 | refine below_set ?_ GE256.out | refine below_set ?_ GE257.out | refine below_set ?_ GE262.out) | exact HB.out)⟩⟩
     case rest =>
      clear HC62
      try clear c1
      try clear c2
      try clear p2
      try clear c4
      try clear c5
      try clear c6
      try clear c7
      try clear c8
      try clear c13
      try clear c14
      try clear c19
      try clear c22
      try clear c27
      try clear c28
      try clear c40
      try clear c45
      try clear c46
      try clear c54
      try clear c54b0
      try clear c55
      try clear c56
      try clear c57
      try clear c59
      try clear c63
      try clear c64
      try clear c66
      try clear c67
      try clear c68
      try clear c68b0
      try clear c69
      try clear c70
      try clear c71
      try clear c73
      try clear hcz10_0
      try clear hcz10_1
      try clear hcz10_2
      try clear hcz10_3
      try clear hcz15_0
      try clear hcz15_1
      try clear hcz15_2
      try clear hcz15_3
      try clear hcz16_0
      try clear hcz16_1
      try clear hcz16_2
      try clear hcz16_3
      try clear hcz23_0
      try clear hcz23_1
      try clear hcz23_2
      try clear hcz23_3
      try clear hcz24_0
      try clear hcz24_1
      try clear hcz24_2
      try clear hcz24_3
      try clear hcz29_0
      try clear hcz29_1
      try clear hcz29_2
      try clear hcz29_3
      try clear hcz30_0
      try clear hcz30_1
      try clear hcz30_2
      try clear hcz30_3
      try clear hcz32_0
      try clear hcz32_1
      try clear hcz32_2
      try clear hcz32_3
      try clear hcz34_0
      try clear hcz34_1
      try clear hcz34_2
      try clear hcz34_3
      try clear hcz41_0
      try clear hcz41_1
      try clear hcz41_2
      try clear hcz41_3
      try clear hcz42_0
      try clear hcz42_1
      try clear hcz42_2
      try clear hcz42_3
      try clear hcz47_0
      try clear hcz47_1
      try clear hcz47_2
      try clear hcz47_3
      try clear hcz48_0
      try clear hcz48_1
      try clear hcz48_2
      try clear hcz48_3
      try clear hcz50_0
      try clear hcz50_1
      try clear hcz50_2
      try clear hcz50_3
      try clear hcz52_0
      try clear hcz52_1
      try clear hcz52_2
      try clear hcz52_3
      try clear hcz53_0
      try clear hcz53_1
      try clear hcz53_2
      try clear hcz53_3
      try clear hcz58_0
      try clear hcz58_1
      try clear hcz58_2
      try clear hcz58_3
      try clear hcz60_0
      try clear hcz60_1
      try clear hcz60_2
      try clear hcz60_3
      try clear hcz65_0
      try clear hcz65_1
      try clear hcz65_2
      try clear hcz65_3
      try clear hcz67_0
      try clear hcz67_1
      try clear hcz67_2
      try clear hcz67_3
      try clear hcz72_0
      try clear hcz72_1
      try clear hcz72_2
      try clear hcz72_3
      try clear hcz74_0
      try clear hcz74_1
      try clear hcz74_2
      try clear hcz74_3
      try clear hcz9_0
      try clear hcz9_1
      try clear hcz9_2
      try clear hcz9_3
      try clear hfz10_0
      try clear hfz10_1
      try clear hfz10_2
      try clear hfz10_3
      try clear hfz15_0
      try clear hfz15_1
      try clear hfz15_2
      try clear hfz15_3
      try clear hfz16_0
      try clear hfz16_1
      try clear hfz16_2
      try clear hfz16_3
      try clear hfz23_0
      try clear hfz23_1
      try clear hfz23_2
      try clear hfz23_3
      try clear hfz24_0
      try clear hfz24_1
      try clear hfz24_2
      try clear hfz24_3
      try clear hfz29_0
      try clear hfz29_1
      try clear hfz29_2
      try clear hfz29_3
      try clear hfz30_0
      try clear hfz30_1
      try clear hfz30_2
      try clear hfz30_3
      try clear hfz32_0
      try clear hfz32_1
      try clear hfz32_2
      try clear hfz32_3
      try clear hfz34_0
      try clear hfz34_1
      try clear hfz34_2
      try clear hfz34_3
      try clear hfz41_0
      try clear hfz41_1
      try clear hfz41_2
      try clear hfz41_3
      try clear hfz42_0
      try clear hfz42_1
      try clear hfz42_2
      try clear hfz42_3
      try clear hfz47_0
      try clear hfz47_1
      try clear hfz47_2
      try clear hfz47_3
      try clear hfz48_0
      try clear hfz48_1
      try clear hfz48_2
      try clear hfz48_3
      try clear hfz50_0
      try clear hfz50_1
      try clear hfz50_2
      try clear hfz50_3
      try clear hfz52_0
      try clear hfz52_1
      try clear hfz52_2
      try clear hfz52_3
      try clear hfz53_0
      try clear hfz53_1
      try clear hfz53_2
      try clear hfz53_3
      try clear hfz58_0
      try clear hfz58_1
      try clear hfz58_2
      try clear hfz58_3
      try clear hfz60_0
      try clear hfz60_1
      try clear hfz60_2
      try clear hfz60_3
      try clear hfz65_0
      try clear hfz65_1
      try clear hfz65_2
      try clear hfz65_3
      try clear hfz67_0
      try clear hfz67_1
      try clear hfz67_2
      try clear hfz67_3
      try clear hfz72_0
      try clear hfz72_1
      try clear hfz72_2
      try clear hfz72_3
      try clear hfz74_0
      try clear hfz74_1
      try clear hfz74_2
      try clear hfz74_3
      try clear hfz9_0
      try clear hfz9_1
      try clear hfz9_2
      try clear hfz9_3
      try clear p2
      obtain ⟨kq, x5_61, HA, HJ61, HO_5, BK256, BK257, BK262, HB⟩ := hcut
      cases kq with
      | zero => exact absurd HA.out (by simp [decoupageref02_Cut.j1])
      | succ kj61 =>
       have H := HA.out
       clear HA
       simp only [decoupageref02_Cut.j1] at H
       by_cases c76 : a0_0 < t258
       ·rw [if_pos c76] at H
        have c76b0 : decide (a0_0 < t258) = true := decide_eq_true c76
        clear c76
        by_cases c77 : x5_61.length < 4398046511104
        ·rw [if_pos c77] at H
         have LMc77 := Aside0.mk c77
         clear c77
         obtain ⟨y274, hy274⟩ : ∃ y_ : List (S37), y_ = (x5_61 ++ [(⟨a0_0, t259, t258, t261⟩ : S37)]) := ⟨_, rfl⟩
         replace H : (if t260 < a0_2 then (if y274.length < 4398046511104 then (some (y274 ++ [(⟨t260, t259, a0_2, t261⟩ : S37)])) else (none)) else (some y274)) = some r := by first | (rw [hy274]; with_reducible exact H) | (have H2_ := (Option.bind_some _ _).symm.trans H; rw [hy274]; with_reducible exact H2_) | (have H2_ := (Option.bind_some _ _).symm.trans H; with_reducible exact H2_) | with_reducible exact H | (rw [hy274]; exact H) | exact H
         have Ny274 := Aside0.mk hy274
         clear hy274
         by_cases c78 : t260 < a0_2
         ·rw [if_pos c78] at H
          have c78b0 : decide (t260 < a0_2) = true := decide_eq_true c78
          clear c78
          by_cases c79 : y274.length < 4398046511104
          ·rw [if_pos c79] at H
           have LMc79 := Aside0.mk c79
           clear c79
           obtain ⟨y277, hy277⟩ : ∃ y_ : List (S37), y_ = (y274 ++ [(⟨t260, t259, a0_2, t261⟩ : S37)]) := ⟨_, rfl⟩
           replace H : (some y277) = some r := by first | (rw [hy277]; with_reducible exact H) | (have H2_ := (Option.bind_some _ _).symm.trans H; rw [hy277]; with_reducible exact H2_) | (have H2_ := (Option.bind_some _ _).symm.trans H; with_reducible exact H2_) | with_reducible exact H | (rw [hy277]; exact H) | exact H
           have Ny277 := Aside0.mk hy277
           clear hy277
           obtain rfl := Option.some.inj H
           have hnb80 := NB256_257.out
           have hnc80 := NB257_256.out
           have hnb81 := NB256_262.out
           have hnc81 := NB262_256.out
           have hcz82_0 : wc.cell? ⟨gb256, 0, none⟩ = some (.int .i64 a0_0) := (blk_cell BK256.out 0).trans rfl
           have hcz82_1 : wc.cell? ⟨gb256, 1, none⟩ = some (.int .i64 a0_1) := (blk_cell BK256.out 1).trans rfl
           have hcz82_2 : wc.cell? ⟨gb256, 2, none⟩ = some (.int .i64 a0_2) := (blk_cell BK256.out 2).trans rfl
           have hcz82_3 : wc.cell? ⟨gb256, 3, none⟩ = some (.int .i64 a0_3) := (blk_cell BK256.out 3).trans rfl
           have hfz82_0 := blk_frozen BK256.out 0
           have hfz82_1 := blk_frozen BK256.out 1
           have hfz82_2 := blk_frozen BK256.out 2
           have hfz82_3 := blk_frozen BK256.out 3
           have hnb83 := NB262_257.out
           have hnc83 := NB257_262.out
           have hcz84_0 : wc.cell? ⟨gb262, 0, none⟩ = some (.int .i64 t258) := (blk_cell BK262.out 0).trans rfl
           have hcz84_1 : wc.cell? ⟨gb262, 1, none⟩ = some (.int .i64 t259) := (blk_cell BK262.out 1).trans rfl
           have hcz84_2 : wc.cell? ⟨gb262, 2, none⟩ = some (.int .i64 t260) := (blk_cell BK262.out 2).trans rfl
           have hcz84_3 : wc.cell? ⟨gb262, 3, none⟩ = some (.int .i64 t261) := (blk_cell BK262.out 3).trans rfl
           have hfz84_0 := blk_frozen BK262.out 0
           have hfz84_1 := blk_frozen BK262.out 1
           have hfz84_2 := blk_frozen BK262.out 2
           have hfz84_3 := blk_frozen BK262.out 3
           go_wp2_with (first | ((with_reducible refine gate_builtin (b := .append) (xs := #[.tmp 55, .tmp 65]) rfl ?_); at_builtin; refine Kd.R_append k37 (w0 := w) w.heap.size rfl (.tmp 55) (.tmp 65) 29 37 (.agg #[(.int .i64 0), (.int .i64 0), (.int .i64 0), (.int .i64 0)]) 32 rfl Try.underlying29 info37 rfl (by decide) (by omega) u5 x5_61 (⟨a0_0, t259, t258, t261⟩ : S37) [.int .i64 a0_0, .int .i64 t259, .int .i64 t258, .int .i64 t261] (fun k_ => k_ ≠ gb256 ∧ k_ ≠ gb257 ∧ k_ ≠ gb262) (fun _ => False) rfl rfl ?aP (fun _ hk => hk.elim) ?aF ?aO ?aB ?aS ?aL ?_; (case aP => exact k37_mkM _ _ _ (⟨a0_0, t259, t258, t261⟩ : S37)); (case aB => exact (by repeat (first | (with_reducible first | exact HB.out | apply below_alloc | apply pw_below_drewN | apply below_drew1 | refine below_set ?_ GE256.out | refine below_set ?_ GE257.out | refine below_set ?_ GE262.out) | exact HB.out))); (case aF => exact (fun k_ hk => ⟨Kd.freshB (g := gb256) (o := .cells #[.int .i64 a0_0, .int .i64 a0_1, .int .i64 a0_2, .int .i64 a0_3] 37 (0, 0)) (by (with_reducible repeat (first | refine blk_drewN ?_ _ | refine blk_drew ?_ | refine blk_alloc ?_ _)); exact BK256.out) k_ hk, Kd.freshB (g := gb257) (o := .cells #[.int .i64 a1_0, .int .i64 a1_1, .int .i64 a1_2, .int .i64 a1_3] 37 (0, 0)) (by (with_reducible repeat (first | refine blk_drewN ?_ _ | refine blk_drew ?_ | refine blk_alloc ?_ _)); exact BK257.out) k_ hk, Kd.freshB (g := gb262) (o := .cells #[.int .i64 t258, .int .i64 t259, .int .i64 t260, .int .i64 t261] 37 (0, 0)) (by (with_reducible repeat (first | refine blk_drewN ?_ _ | refine blk_drew ?_ | refine blk_alloc ?_ _)); exact BK262.out) k_ hk⟩)); (case aO => exact (by (with_reducible repeat (first | apply Kd.R_alloc | apply Kd.R_drewN | apply Kd.R_drew)); exact HO_5.out)); (case aS => exact (below_size (by repeat (first | (with_reducible first | exact HB.out | apply below_alloc | apply pw_below_drewN | apply below_drew1 | refine below_set ?_ GE256.out | refine below_set ?_ GE257.out | refine below_set ?_ GE262.out) | exact HB.out)))); (case aL => have := LMc77.out; omega); intro v275 w85 ho hb hg hat; rw [← Ny274.out] at ho; have n0_ := Aside0.mk (blk_grown (g := gb256) (o := .cells #[.int .i64 a0_0, .int .i64 a0_1, .int .i64 a0_2, .int .i64 a0_3] 37 (0, 0)) (by (with_reducible repeat (first | refine blk_drewN ?_ _ | refine blk_drew ?_ | refine blk_alloc ?_ _)); exact BK256.out) hg (Kd.R_away HO_5.out (fun _ hk => hk.1))); have n1_ := Aside0.mk (blk_grown (g := gb257) (o := .cells #[.int .i64 a1_0, .int .i64 a1_1, .int .i64 a1_2, .int .i64 a1_3] 37 (0, 0)) (by (with_reducible repeat (first | refine blk_drewN ?_ _ | refine blk_drew ?_ | refine blk_alloc ?_ _)); exact BK257.out) hg (Kd.R_away HO_5.out (fun _ hk => hk.2.1))); have n2_ := Aside0.mk (blk_grown (g := gb262) (o := .cells #[.int .i64 t258, .int .i64 t259, .int .i64 t260, .int .i64 t261] 37 (0, 0)) (by (with_reducible repeat (first | refine blk_drewN ?_ _ | refine blk_drew ?_ | refine blk_alloc ?_ _)); exact BK262.out) hg (Kd.R_away HO_5.out (fun _ hk => hk.2.2))); have n3_ := Aside0.mk (hb); have n4_ := Aside0.mk (ho); clear BK256; clear BK257; clear BK262; clear HB; clear HO_5; have BK256 := n0_; have BK257 := n1_; have BK262 := n2_; have HB := n3_; have HO276 := n4_; clear n0_ n1_ n2_ n3_ n4_; clear ho hb hg hat; have hcz86_0 : w85.cell? ⟨gb262, 0, none⟩ = some (.int .i64 t258) := (blk_cell BK262.out 0).trans rfl; have hcz86_1 : w85.cell? ⟨gb262, 1, none⟩ = some (.int .i64 t259) := (blk_cell BK262.out 1).trans rfl; have hcz86_2 : w85.cell? ⟨gb262, 2, none⟩ = some (.int .i64 t260) := (blk_cell BK262.out 2).trans rfl; have hcz86_3 : w85.cell? ⟨gb262, 3, none⟩ = some (.int .i64 t261) := (blk_cell BK262.out 3).trans rfl; have hfz86_0 := blk_frozen BK262.out 0; have hfz86_1 := blk_frozen BK262.out 1; have hfz86_2 := blk_frozen BK262.out 2; have hfz86_3 := blk_frozen BK262.out 3; have hcz87_0 : w85.cell? ⟨gb256, 0, none⟩ = some (.int .i64 a0_0) := (blk_cell BK256.out 0).trans rfl; have hcz87_1 : w85.cell? ⟨gb256, 1, none⟩ = some (.int .i64 a0_1) := (blk_cell BK256.out 1).trans rfl; have hcz87_2 : w85.cell? ⟨gb256, 2, none⟩ = some (.int .i64 a0_2) := (blk_cell BK256.out 2).trans rfl; have hcz87_3 : w85.cell? ⟨gb256, 3, none⟩ = some (.int .i64 a0_3) := (blk_cell BK256.out 3).trans rfl; have hfz87_0 := blk_frozen BK256.out 0; have hfz87_1 := blk_frozen BK256.out 1; have hfz87_2 := blk_frozen BK256.out 2; have hfz87_3 := blk_frozen BK256.out 3) | ((with_reducible refine gate_builtin (b := .append) (xs := #[.tmp 72, .tmp 82]) rfl ?_); at_builtin; refine Kd.R_append k37 (w0 := w) w.heap.size rfl (.tmp 72) (.tmp 82) 29 37 (.agg #[(.int .i64 0), (.int .i64 0), (.int .i64 0), (.int .i64 0)]) 32 rfl Try.underlying29 info37 rfl (by decide) (by omega) v275 y274 (⟨t260, t259, a0_2, t261⟩ : S37) [.int .i64 t260, .int .i64 t259, .int .i64 a0_2, .int .i64 t261] (fun k_ => k_ ≠ gb256 ∧ k_ ≠ gb257 ∧ k_ ≠ gb262) (fun _ => False) rfl rfl ?aP (fun _ hk => hk.elim) ?aF ?aO ?aB ?aS ?aL ?_; (case aP => exact k37_mkM _ _ _ (⟨t260, t259, a0_2, t261⟩ : S37)); (case aB => exact (by repeat (first | (with_reducible first | exact HB.out | apply below_alloc | apply pw_below_drewN | apply below_drew1 | refine below_set ?_ GE256.out | refine below_set ?_ GE257.out | refine below_set ?_ GE262.out) | exact HB.out))); (case aF => exact (fun k_ hk => ⟨Kd.freshB (g := gb256) (o := .cells #[.int .i64 a0_0, .int .i64 a0_1, .int .i64 a0_2, .int .i64 a0_3] 37 (0, 0)) (by (with_reducible repeat (first | refine blk_drewN ?_ _ | refine blk_drew ?_ | refine blk_alloc ?_ _)); exact BK256.out) k_ hk, Kd.freshB (g := gb257) (o := .cells #[.int .i64 a1_0, .int .i64 a1_1, .int .i64 a1_2, .int .i64 a1_3] 37 (0, 0)) (by (with_reducible repeat (first | refine blk_drewN ?_ _ | refine blk_drew ?_ | refine blk_alloc ?_ _)); exact BK257.out) k_ hk, Kd.freshB (g := gb262) (o := .cells #[.int .i64 t258, .int .i64 t259, .int .i64 t260, .int .i64 t261] 37 (0, 0)) (by (with_reducible repeat (first | refine blk_drewN ?_ _ | refine blk_drew ?_ | refine blk_alloc ?_ _)); exact BK262.out) k_ hk⟩)); (case aO => exact (by (with_reducible repeat (first | apply Kd.R_alloc | apply Kd.R_drewN | apply Kd.R_drew)); exact HO276.out)); (case aS => exact (below_size (by repeat (first | (with_reducible first | exact HB.out | apply below_alloc | apply pw_below_drewN | apply below_drew1 | refine below_set ?_ GE256.out | refine below_set ?_ GE257.out | refine below_set ?_ GE262.out) | exact HB.out)))); (case aL => have := LMc79.out; omega); intro v278 w88 ho hb hg hat; rw [← Ny277.out] at ho; have n0_ := Aside0.mk (blk_grown (g := gb256) (o := .cells #[.int .i64 a0_0, .int .i64 a0_1, .int .i64 a0_2, .int .i64 a0_3] 37 (0, 0)) (by (with_reducible repeat (first | refine blk_drewN ?_ _ | refine blk_drew ?_ | refine blk_alloc ?_ _)); exact BK256.out) hg (Kd.R_away HO276.out (fun _ hk => hk.1))); have n1_ := Aside0.mk (blk_grown (g := gb257) (o := .cells #[.int .i64 a1_0, .int .i64 a1_1, .int .i64 a1_2, .int .i64 a1_3] 37 (0, 0)) (by (with_reducible repeat (first | refine blk_drewN ?_ _ | refine blk_drew ?_ | refine blk_alloc ?_ _)); exact BK257.out) hg (Kd.R_away HO276.out (fun _ hk => hk.2.1))); have n2_ := Aside0.mk (blk_grown (g := gb262) (o := .cells #[.int .i64 t258, .int .i64 t259, .int .i64 t260, .int .i64 t261] 37 (0, 0)) (by (with_reducible repeat (first | refine blk_drewN ?_ _ | refine blk_drew ?_ | refine blk_alloc ?_ _)); exact BK262.out) hg (Kd.R_away HO276.out (fun _ hk => hk.2.2))); have n3_ := Aside0.mk (hb); have n4_ := Aside0.mk (ho); clear BK256; clear BK257; clear BK262; clear HB; clear HO276; have BK256 := n0_; have BK257 := n1_; have BK262 := n2_; have HB := n3_; have HO279 := n4_; clear n0_ n1_ n2_ n3_ n4_; clear ho hb hg hat))
           go_ret
           exact ⟨_, by first | rfl | (simp [errW_none, errW_some] <;> rfl) | (simp [*, errW_none, errW_some] <;> rfl), by (with_reducible repeat (first | apply Kd.R_alloc | apply Kd.R_drewN | apply Kd.R_drew)); exact Kd.R_mono HO279.out (fun _ hk => trivial), by repeat (first | (with_reducible first | exact HB.out | apply below_alloc | apply pw_below_drewN | apply below_drew1 | refine below_set ?_ GE256.out | refine below_set ?_ GE257.out | refine below_set ?_ GE262.out) | exact HB.out)⟩
          ·rw [if_neg c79] at H
           exact absurd H (by simp)
         ·rw [if_neg c78] at H
          have c78b0 : decide (t260 < a0_2) = false := decide_eq_false c78
          clear c78
          obtain rfl := Option.some.inj H
          have hnb89 := NB256_257.out
          have hnc89 := NB257_256.out
          have hnb90 := NB256_262.out
          have hnc90 := NB262_256.out
          have hcz91_0 : wc.cell? ⟨gb256, 0, none⟩ = some (.int .i64 a0_0) := (blk_cell BK256.out 0).trans rfl
          have hcz91_1 : wc.cell? ⟨gb256, 1, none⟩ = some (.int .i64 a0_1) := (blk_cell BK256.out 1).trans rfl
          have hcz91_2 : wc.cell? ⟨gb256, 2, none⟩ = some (.int .i64 a0_2) := (blk_cell BK256.out 2).trans rfl
          have hcz91_3 : wc.cell? ⟨gb256, 3, none⟩ = some (.int .i64 a0_3) := (blk_cell BK256.out 3).trans rfl
          have hfz91_0 := blk_frozen BK256.out 0
          have hfz91_1 := blk_frozen BK256.out 1
          have hfz91_2 := blk_frozen BK256.out 2
          have hfz91_3 := blk_frozen BK256.out 3
          have hnb92 := NB262_257.out
          have hnc92 := NB257_262.out
          have hcz93_0 : wc.cell? ⟨gb262, 0, none⟩ = some (.int .i64 t258) := (blk_cell BK262.out 0).trans rfl
          have hcz93_1 : wc.cell? ⟨gb262, 1, none⟩ = some (.int .i64 t259) := (blk_cell BK262.out 1).trans rfl
          have hcz93_2 : wc.cell? ⟨gb262, 2, none⟩ = some (.int .i64 t260) := (blk_cell BK262.out 2).trans rfl
          have hcz93_3 : wc.cell? ⟨gb262, 3, none⟩ = some (.int .i64 t261) := (blk_cell BK262.out 3).trans rfl
          have hfz93_0 := blk_frozen BK262.out 0
          have hfz93_1 := blk_frozen BK262.out 1
          have hfz93_2 := blk_frozen BK262.out 2
          have hfz93_3 := blk_frozen BK262.out 3
          go_wp2_with (first | ((with_reducible refine gate_builtin (b := .append) (xs := #[.tmp 55, .tmp 65]) rfl ?_); at_builtin; refine Kd.R_append k37 (w0 := w) w.heap.size rfl (.tmp 55) (.tmp 65) 29 37 (.agg #[(.int .i64 0), (.int .i64 0), (.int .i64 0), (.int .i64 0)]) 32 rfl Try.underlying29 info37 rfl (by decide) (by omega) u5 x5_61 (⟨a0_0, t259, t258, t261⟩ : S37) [.int .i64 a0_0, .int .i64 t259, .int .i64 t258, .int .i64 t261] (fun k_ => k_ ≠ gb256 ∧ k_ ≠ gb257 ∧ k_ ≠ gb262) (fun _ => False) rfl rfl ?aP (fun _ hk => hk.elim) ?aF ?aO ?aB ?aS ?aL ?_; (case aP => exact k37_mkM _ _ _ (⟨a0_0, t259, t258, t261⟩ : S37)); (case aB => exact (by repeat (first | (with_reducible first | exact HB.out | apply below_alloc | apply pw_below_drewN | apply below_drew1 | refine below_set ?_ GE256.out | refine below_set ?_ GE257.out | refine below_set ?_ GE262.out) | exact HB.out))); (case aF => exact (fun k_ hk => ⟨Kd.freshB (g := gb256) (o := .cells #[.int .i64 a0_0, .int .i64 a0_1, .int .i64 a0_2, .int .i64 a0_3] 37 (0, 0)) (by (with_reducible repeat (first | refine blk_drewN ?_ _ | refine blk_drew ?_ | refine blk_alloc ?_ _)); exact BK256.out) k_ hk, Kd.freshB (g := gb257) (o := .cells #[.int .i64 a1_0, .int .i64 a1_1, .int .i64 a1_2, .int .i64 a1_3] 37 (0, 0)) (by (with_reducible repeat (first | refine blk_drewN ?_ _ | refine blk_drew ?_ | refine blk_alloc ?_ _)); exact BK257.out) k_ hk, Kd.freshB (g := gb262) (o := .cells #[.int .i64 t258, .int .i64 t259, .int .i64 t260, .int .i64 t261] 37 (0, 0)) (by (with_reducible repeat (first | refine blk_drewN ?_ _ | refine blk_drew ?_ | refine blk_alloc ?_ _)); exact BK262.out) k_ hk⟩)); (case aO => exact (by (with_reducible repeat (first | apply Kd.R_alloc | apply Kd.R_drewN | apply Kd.R_drew)); exact HO_5.out)); (case aS => exact (below_size (by repeat (first | (with_reducible first | exact HB.out | apply below_alloc | apply pw_below_drewN | apply below_drew1 | refine below_set ?_ GE256.out | refine below_set ?_ GE257.out | refine below_set ?_ GE262.out) | exact HB.out)))); (case aL => have := LMc77.out; omega); intro v275 w94 ho hb hg hat; rw [← Ny274.out] at ho; have n0_ := Aside0.mk (blk_grown (g := gb256) (o := .cells #[.int .i64 a0_0, .int .i64 a0_1, .int .i64 a0_2, .int .i64 a0_3] 37 (0, 0)) (by (with_reducible repeat (first | refine blk_drewN ?_ _ | refine blk_drew ?_ | refine blk_alloc ?_ _)); exact BK256.out) hg (Kd.R_away HO_5.out (fun _ hk => hk.1))); have n1_ := Aside0.mk (blk_grown (g := gb257) (o := .cells #[.int .i64 a1_0, .int .i64 a1_1, .int .i64 a1_2, .int .i64 a1_3] 37 (0, 0)) (by (with_reducible repeat (first | refine blk_drewN ?_ _ | refine blk_drew ?_ | refine blk_alloc ?_ _)); exact BK257.out) hg (Kd.R_away HO_5.out (fun _ hk => hk.2.1))); have n2_ := Aside0.mk (blk_grown (g := gb262) (o := .cells #[.int .i64 t258, .int .i64 t259, .int .i64 t260, .int .i64 t261] 37 (0, 0)) (by (with_reducible repeat (first | refine blk_drewN ?_ _ | refine blk_drew ?_ | refine blk_alloc ?_ _)); exact BK262.out) hg (Kd.R_away HO_5.out (fun _ hk => hk.2.2))); have n3_ := Aside0.mk (hb); have n4_ := Aside0.mk (ho); clear BK256; clear BK257; clear BK262; clear HB; clear HO_5; have BK256 := n0_; have BK257 := n1_; have BK262 := n2_; have HB := n3_; have HO276 := n4_; clear n0_ n1_ n2_ n3_ n4_; clear ho hb hg hat; have hcz95_0 : w94.cell? ⟨gb262, 0, none⟩ = some (.int .i64 t258) := (blk_cell BK262.out 0).trans rfl; have hcz95_1 : w94.cell? ⟨gb262, 1, none⟩ = some (.int .i64 t259) := (blk_cell BK262.out 1).trans rfl; have hcz95_2 : w94.cell? ⟨gb262, 2, none⟩ = some (.int .i64 t260) := (blk_cell BK262.out 2).trans rfl; have hcz95_3 : w94.cell? ⟨gb262, 3, none⟩ = some (.int .i64 t261) := (blk_cell BK262.out 3).trans rfl; have hfz95_0 := blk_frozen BK262.out 0; have hfz95_1 := blk_frozen BK262.out 1; have hfz95_2 := blk_frozen BK262.out 2; have hfz95_3 := blk_frozen BK262.out 3; have hcz96_0 : w94.cell? ⟨gb256, 0, none⟩ = some (.int .i64 a0_0) := (blk_cell BK256.out 0).trans rfl; have hcz96_1 : w94.cell? ⟨gb256, 1, none⟩ = some (.int .i64 a0_1) := (blk_cell BK256.out 1).trans rfl; have hcz96_2 : w94.cell? ⟨gb256, 2, none⟩ = some (.int .i64 a0_2) := (blk_cell BK256.out 2).trans rfl; have hcz96_3 : w94.cell? ⟨gb256, 3, none⟩ = some (.int .i64 a0_3) := (blk_cell BK256.out 3).trans rfl; have hfz96_0 := blk_frozen BK256.out 0; have hfz96_1 := blk_frozen BK256.out 1; have hfz96_2 := blk_frozen BK256.out 2; have hfz96_3 := blk_frozen BK256.out 3))
          go_ret
          exact ⟨_, by first | rfl | (simp [errW_none, errW_some] <;> rfl) | (simp [*, errW_none, errW_some] <;> rfl), by (with_reducible repeat (first | apply Kd.R_alloc | apply Kd.R_drewN | apply Kd.R_drew)); exact Kd.R_mono HO276.out (fun _ hk => trivial), by repeat (first | (with_reducible first | exact HB.out | apply below_alloc | apply pw_below_drewN | apply below_drew1 | refine below_set ?_ GE256.out | refine below_set ?_ GE257.out | refine below_set ?_ GE262.out) | exact HB.out)⟩
        ·rw [if_neg c77] at H
         exact absurd H (by simp)
       ·rw [if_neg c76] at H
        have c76b0 : decide (a0_0 < t258) = false := decide_eq_false c76
        clear c76
        by_cases c97 : t260 < a0_2
        ·rw [if_pos c97] at H
         have c97b0 : decide (t260 < a0_2) = true := decide_eq_true c97
         clear c97
         by_cases c98 : x5_61.length < 4398046511104
         ·rw [if_pos c98] at H
          have LMc98 := Aside0.mk c98
          clear c98
          obtain ⟨y280, hy280⟩ : ∃ y_ : List (S37), y_ = (x5_61 ++ [(⟨t260, t259, a0_2, t261⟩ : S37)]) := ⟨_, rfl⟩
          replace H : (some y280) = some r := by first | (rw [hy280]; with_reducible exact H) | (have H2_ := (Option.bind_some _ _).symm.trans H; rw [hy280]; with_reducible exact H2_) | (have H2_ := (Option.bind_some _ _).symm.trans H; with_reducible exact H2_) | with_reducible exact H | (rw [hy280]; exact H) | exact H
          have Ny280 := Aside0.mk hy280
          clear hy280
          obtain rfl := Option.some.inj H
          have hnb99 := NB256_257.out
          have hnc99 := NB257_256.out
          have hnb100 := NB256_262.out
          have hnc100 := NB262_256.out
          have hcz101_0 : wc.cell? ⟨gb256, 0, none⟩ = some (.int .i64 a0_0) := (blk_cell BK256.out 0).trans rfl
          have hcz101_1 : wc.cell? ⟨gb256, 1, none⟩ = some (.int .i64 a0_1) := (blk_cell BK256.out 1).trans rfl
          have hcz101_2 : wc.cell? ⟨gb256, 2, none⟩ = some (.int .i64 a0_2) := (blk_cell BK256.out 2).trans rfl
          have hcz101_3 : wc.cell? ⟨gb256, 3, none⟩ = some (.int .i64 a0_3) := (blk_cell BK256.out 3).trans rfl
          have hfz101_0 := blk_frozen BK256.out 0
          have hfz101_1 := blk_frozen BK256.out 1
          have hfz101_2 := blk_frozen BK256.out 2
          have hfz101_3 := blk_frozen BK256.out 3
          have hnb102 := NB262_257.out
          have hnc102 := NB257_262.out
          have hcz103_0 : wc.cell? ⟨gb262, 0, none⟩ = some (.int .i64 t258) := (blk_cell BK262.out 0).trans rfl
          have hcz103_1 : wc.cell? ⟨gb262, 1, none⟩ = some (.int .i64 t259) := (blk_cell BK262.out 1).trans rfl
          have hcz103_2 : wc.cell? ⟨gb262, 2, none⟩ = some (.int .i64 t260) := (blk_cell BK262.out 2).trans rfl
          have hcz103_3 : wc.cell? ⟨gb262, 3, none⟩ = some (.int .i64 t261) := (blk_cell BK262.out 3).trans rfl
          have hfz103_0 := blk_frozen BK262.out 0
          have hfz103_1 := blk_frozen BK262.out 1
          have hfz103_2 := blk_frozen BK262.out 2
          have hfz103_3 := blk_frozen BK262.out 3
          go_wp2_with (first | ((with_reducible refine gate_builtin (b := .append) (xs := #[.tmp 72, .tmp 82]) rfl ?_); at_builtin; refine Kd.R_append k37 (w0 := w) w.heap.size rfl (.tmp 72) (.tmp 82) 29 37 (.agg #[(.int .i64 0), (.int .i64 0), (.int .i64 0), (.int .i64 0)]) 32 rfl Try.underlying29 info37 rfl (by decide) (by omega) u5 x5_61 (⟨t260, t259, a0_2, t261⟩ : S37) [.int .i64 t260, .int .i64 t259, .int .i64 a0_2, .int .i64 t261] (fun k_ => k_ ≠ gb256 ∧ k_ ≠ gb257 ∧ k_ ≠ gb262) (fun _ => False) rfl rfl ?aP (fun _ hk => hk.elim) ?aF ?aO ?aB ?aS ?aL ?_; (case aP => exact k37_mkM _ _ _ (⟨t260, t259, a0_2, t261⟩ : S37)); (case aB => exact (by repeat (first | (with_reducible first | exact HB.out | apply below_alloc | apply pw_below_drewN | apply below_drew1 | refine below_set ?_ GE256.out | refine below_set ?_ GE257.out | refine below_set ?_ GE262.out) | exact HB.out))); (case aF => exact (fun k_ hk => ⟨Kd.freshB (g := gb256) (o := .cells #[.int .i64 a0_0, .int .i64 a0_1, .int .i64 a0_2, .int .i64 a0_3] 37 (0, 0)) (by (with_reducible repeat (first | refine blk_drewN ?_ _ | refine blk_drew ?_ | refine blk_alloc ?_ _)); exact BK256.out) k_ hk, Kd.freshB (g := gb257) (o := .cells #[.int .i64 a1_0, .int .i64 a1_1, .int .i64 a1_2, .int .i64 a1_3] 37 (0, 0)) (by (with_reducible repeat (first | refine blk_drewN ?_ _ | refine blk_drew ?_ | refine blk_alloc ?_ _)); exact BK257.out) k_ hk, Kd.freshB (g := gb262) (o := .cells #[.int .i64 t258, .int .i64 t259, .int .i64 t260, .int .i64 t261] 37 (0, 0)) (by (with_reducible repeat (first | refine blk_drewN ?_ _ | refine blk_drew ?_ | refine blk_alloc ?_ _)); exact BK262.out) k_ hk⟩)); (case aO => exact (by (with_reducible repeat (first | apply Kd.R_alloc | apply Kd.R_drewN | apply Kd.R_drew)); exact HO_5.out)); (case aS => exact (below_size (by repeat (first | (with_reducible first | exact HB.out | apply below_alloc | apply pw_below_drewN | apply below_drew1 | refine below_set ?_ GE256.out | refine below_set ?_ GE257.out | refine below_set ?_ GE262.out) | exact HB.out)))); (case aL => have := LMc98.out; omega); intro v281 w104 ho hb hg hat; rw [← Ny280.out] at ho; have n0_ := Aside0.mk (blk_grown (g := gb256) (o := .cells #[.int .i64 a0_0, .int .i64 a0_1, .int .i64 a0_2, .int .i64 a0_3] 37 (0, 0)) (by (with_reducible repeat (first | refine blk_drewN ?_ _ | refine blk_drew ?_ | refine blk_alloc ?_ _)); exact BK256.out) hg (Kd.R_away HO_5.out (fun _ hk => hk.1))); have n1_ := Aside0.mk (blk_grown (g := gb257) (o := .cells #[.int .i64 a1_0, .int .i64 a1_1, .int .i64 a1_2, .int .i64 a1_3] 37 (0, 0)) (by (with_reducible repeat (first | refine blk_drewN ?_ _ | refine blk_drew ?_ | refine blk_alloc ?_ _)); exact BK257.out) hg (Kd.R_away HO_5.out (fun _ hk => hk.2.1))); have n2_ := Aside0.mk (blk_grown (g := gb262) (o := .cells #[.int .i64 t258, .int .i64 t259, .int .i64 t260, .int .i64 t261] 37 (0, 0)) (by (with_reducible repeat (first | refine blk_drewN ?_ _ | refine blk_drew ?_ | refine blk_alloc ?_ _)); exact BK262.out) hg (Kd.R_away HO_5.out (fun _ hk => hk.2.2))); have n3_ := Aside0.mk (hb); have n4_ := Aside0.mk (ho); clear BK256; clear BK257; clear BK262; clear HB; clear HO_5; have BK256 := n0_; have BK257 := n1_; have BK262 := n2_; have HB := n3_; have HO282 := n4_; clear n0_ n1_ n2_ n3_ n4_; clear ho hb hg hat))
          go_ret
          exact ⟨_, by first | rfl | (simp [errW_none, errW_some] <;> rfl) | (simp [*, errW_none, errW_some] <;> rfl), by (with_reducible repeat (first | apply Kd.R_alloc | apply Kd.R_drewN | apply Kd.R_drew)); exact Kd.R_mono HO282.out (fun _ hk => trivial), by repeat (first | (with_reducible first | exact HB.out | apply below_alloc | apply pw_below_drewN | apply below_drew1 | refine below_set ?_ GE256.out | refine below_set ?_ GE257.out | refine below_set ?_ GE262.out) | exact HB.out)⟩
         ·rw [if_neg c98] at H
          exact absurd H (by simp)
        ·rw [if_neg c97] at H
         have c97b0 : decide (t260 < a0_2) = false := decide_eq_false c97
         clear c97
         obtain rfl := Option.some.inj H
         have hnb105 := NB256_257.out
         have hnc105 := NB257_256.out
         have hnb106 := NB256_262.out
         have hnc106 := NB262_256.out
         have hcz107_0 : wc.cell? ⟨gb256, 0, none⟩ = some (.int .i64 a0_0) := (blk_cell BK256.out 0).trans rfl
         have hcz107_1 : wc.cell? ⟨gb256, 1, none⟩ = some (.int .i64 a0_1) := (blk_cell BK256.out 1).trans rfl
         have hcz107_2 : wc.cell? ⟨gb256, 2, none⟩ = some (.int .i64 a0_2) := (blk_cell BK256.out 2).trans rfl
         have hcz107_3 : wc.cell? ⟨gb256, 3, none⟩ = some (.int .i64 a0_3) := (blk_cell BK256.out 3).trans rfl
         have hfz107_0 := blk_frozen BK256.out 0
         have hfz107_1 := blk_frozen BK256.out 1
         have hfz107_2 := blk_frozen BK256.out 2
         have hfz107_3 := blk_frozen BK256.out 3
         have hnb108 := NB262_257.out
         have hnc108 := NB257_262.out
         have hcz109_0 : wc.cell? ⟨gb262, 0, none⟩ = some (.int .i64 t258) := (blk_cell BK262.out 0).trans rfl
         have hcz109_1 : wc.cell? ⟨gb262, 1, none⟩ = some (.int .i64 t259) := (blk_cell BK262.out 1).trans rfl
         have hcz109_2 : wc.cell? ⟨gb262, 2, none⟩ = some (.int .i64 t260) := (blk_cell BK262.out 2).trans rfl
         have hcz109_3 : wc.cell? ⟨gb262, 3, none⟩ = some (.int .i64 t261) := (blk_cell BK262.out 3).trans rfl
         have hfz109_0 := blk_frozen BK262.out 0
         have hfz109_1 := blk_frozen BK262.out 1
         have hfz109_2 := blk_frozen BK262.out 2
         have hfz109_3 := blk_frozen BK262.out 3
         go_wp2
         go_ret
         exact ⟨_, by first | rfl | (simp [errW_none, errW_some] <;> rfl) | (simp [*, errW_none, errW_some] <;> rfl), by (with_reducible repeat (first | apply Kd.R_alloc | apply Kd.R_drewN | apply Kd.R_drew)); exact Kd.R_mono HO_5.out (fun _ hk => trivial), by repeat (first | (with_reducible first | exact HB.out | apply below_alloc | apply pw_below_drewN | apply below_drew1 | refine below_set ?_ GE256.out | refine below_set ?_ GE257.out | refine below_set ?_ GE262.out) | exact HB.out)⟩

end Go.Proofs.Ytppklhfiajjhmaa.PHarmTells
