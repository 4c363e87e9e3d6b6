/- What is proved: texts of the law TilesShow, joined by program. Conditions: none but those in each statement. -/
import Derived.Test.YtppklhfiajjhmaaZTilesShow10
import Derived.Test.YtppklhfiajjhmaaZTilesShow12
import Derived.Test.YtppklhfiajjhmaaZTilesShow11
section
namespace Go.Proofs.Ytppklhfiajjhmaa.PPT
open Go.RowKit Go.Proofs.YtppklhfiajjhmaaW.PrintWords Go.Proofs.YtppklhfiajjhmaaW.PrintLast Go.Proofs.YtppklhfiajjhmaaW.PrintMore
attribute [local go_sem] max2_int min2_int max_two min_two max_three min_three max_four min_four   -- for this text's walks alone
set_option linter.unusedVariables false
set_option linter.unusedSimpArgs false
mutual
def rect_Cut.j0:Nat → Int → Int → Int → Int → Int → Int → Int → Int → Option ((List (S37)))
 | 0,_,_,_,_,_,_,_,_ => none
 | k + 1,x159000,x159001,x159002,x159003,x165000,x165001,x165002,x165003 => (some (([(⟨x159000,x159001,x159002,x165001⟩:S37),(⟨x159000,x165003,x159002,x159003⟩:S37),(⟨x159000,x165001,x165000,x165003⟩:S37),(⟨x165002,x165001,x159002,x165003⟩:S37)]:List (S37)):List (S37))).bind fun y166 => (rect_Cut.l0 k ([]:List (S37)) y166 (y166.length:Int) 0)
def rect_Cut.l0:Nat → List (S37) → List (S37) → Int → Int → Option ((List (S37)))
 | 0,_,_,_,_ => none
 | k + 1,x6,x59,x60,x61 => if x61 < x60 then (if 0 ≤ x61 then (if x61 < (x59.length:Int) then ((rect_Empty.f ((rd_T37 x59 x61).f0) ((rd_T37 x59 x61).f1) ((rd_T37 x59 x61).f2) ((rd_T37 x59 x61).f3)).bind fun t171 => (if t171 = true then (rect_Cut.l0 k x6 x59 x60 (wrap64 (x61 + 1))) else (if x6.length < 4398046511104 then (rect_Cut.l0 k (x6 ++ [(⟨(rd_T37 x59 x61).f0,(rd_T37 x59 x61).f1,(rd_T37 x59 x61).f2,(rd_T37 x59 x61).f3⟩:S37)]) x59 x60 (wrap64 (x61 + 1))) else (none)))) else (none)) else (none)) else (some x6)
end
def rect_Cut.f (k:Nat) (a0_0:Int) (a0_1:Int) (a0_2:Int) (a0_3:Int) (a1_0:Int) (a1_1:Int) (a1_2:Int) (a1_3:Int):Option ((List (S37))):=(rect_Meet.f a0_0 a0_1 a0_2 a0_3 a1_0 a1_1 a1_2 a1_3).bind fun bt160 => ((rect_Empty.f bt160.1 bt160.2.1 bt160.2.2.1 bt160.2.2.2).bind fun t165 => (if t165 = true then (rect_Cut.j0 k a0_0 a0_1 a0_2 a0_3 a0_0 a0_3 a0_2 a0_3) else (rect_Cut.j0 k a0_0 a0_1 a0_2 a0_3 bt160.1 bt160.2.1 bt160.2.2.1 bt160.2.2.2)))
set_option maxHeartbeats 8000000 in
set_option maxRecDepth 100000 in
theorem rect_Cut.calls (k:Nat) (a0_0:Int) (a0_1:Int) (a0_2:Int) (a0_3:Int) (a1_0:Int) (a1_1:Int) (a1_2:Int) (a1_3:Int) (r:List (S37)) (w:World) (h:rect_Cut.f k a0_0 a0_1 a0_2 a0_3 a1_0 a1_1 a1_2 a1_3 = some r) :
  Calls Try.prog 66 #[.agg #[.int .i64 a0_0,.int .i64 a0_1,.int .i64 a0_2,.int .i64 a0_3],.agg #[.int .i64 a1_0,.int .i64 a1_1,.int .i64 a1_2,.int .i64 a1_3]] w fun e w' => ∃ v0_:Value,e = .returned (v0_) ∧ Kd.R k37 37 w' w.heap.size (fun _ => True) v0_ r ∧ Below w.heap.size w w':=by
 have hu37:=Try.underlying37
 have HB:=Aside0.mk (Below.refl w.heap.size w)
 have H:((rect_Meet.f a0_0 a0_1 a0_2 a0_3 a1_0 a1_1 a1_2 a1_3).bind fun bt160 => ((rect_Empty.f bt160.1 bt160.2.1 bt160.2.2.1 bt160.2.2.2).bind fun t165 => (if t165 = true then (rect_Cut.j0 k a0_0 a0_1 a0_2 a0_3 a0_0 a0_3 a0_2 a0_3) else (rect_Cut.j0 k a0_0 a0_1 a0_2 a0_3 bt160.1 bt160.2.1 bt160.2.2.1 bt160.2.2.2)))) = some r:=h
 clear h
 replace H:=Option.bind_eq_some_iff.mp H
 obtain ⟨⟨t160,t161,t162,t163⟩,A30,H⟩:=H
 replace H:((rect_Empty.f t160 t161 t162 t163).bind fun t165 => (if t165 = true then (rect_Cut.j0 k a0_0 a0_1 a0_2 a0_3 a0_0 a0_3 a0_2 a0_3) else (rect_Cut.j0 k a0_0 a0_1 a0_2 a0_3 t160 t161 t162 t163))) = some r:=H
 have A3:=Aside0.mk A30
 clear A30
 replace H:=Option.bind_eq_some_iff.mp H
 obtain ⟨t165,A40,H⟩:=H
 replace H:(if t165 = true then (rect_Cut.j0 k a0_0 a0_1 a0_2 a0_3 a0_0 a0_3 a0_2 a0_3) else (rect_Cut.j0 k a0_0 a0_1 a0_2 a0_3 t160 t161 t162 t163)) = some r:=H
 have A4:=Aside0.mk A40
 clear A40
 have HC5:=Aside0.mk H
 clear H
 go_enter Try.func66,Try.ntmps66
 go_upto_if 13 with (first | ((with_reducible refine gate_dst (N:=2) rfl ?_); refine box_event ?hg (N:=2) ?hd (cs:=#[.int .i64 a0_0,.int .i64 a0_1,.int .i64 a0_2,.int .i64 a0_3]) (t:=37) ?hr ?_; (case hd => rfl); (case hg => rfl); (case hr => first | (go_simp; done) | (go_simp; rfl)); intro gb158 hg w6 hbox hb; have n0_:=Aside0.mk (below_step (by repeat (first | (with_reducible first | exact HB.out | apply below_alloc | apply pw_below_drewN | apply below_drew1) | exact HB.out)) hb); have n1_:=Aside0.mk (hbox); have n2_:=Aside0.mk ((by rw [hg]; exact (below_size (by repeat (first | (with_reducible first | exact HB.out | apply below_alloc | apply pw_below_drewN | apply below_drew1) | exact HB.out))):w.heap.size ≤ gb158)); have n3_:=Aside0.mk ((by rw [hg]; exact (below_size (by repeat (first | (with_reducible first | exact HB.out | apply below_alloc | apply pw_below_drewN | apply below_drew1) | exact HB.out))):w.heap.size ≤ gb158)); clear HB; have HB:=n0_; have BK158:=n1_; have GW158:=n2_; have GE158:=n3_; clear n0_ n1_ n2_ n3_; clear hb hbox hg) | ((with_reducible refine gate_dst (N:=3) rfl ?_); refine box_event ?hg (N:=3) ?hd (cs:=#[.int .i64 a1_0,.int .i64 a1_1,.int .i64 a1_2,.int .i64 a1_3]) (t:=37) ?hr ?_; (case hd => rfl); (case hg => rfl); (case hr => first | (go_simp; done) | (go_simp; rfl)); intro gb159 hg w7 hbox hb; have n0_:=Aside0.mk (blk_below (g:=gb158) (o:=.cells #[.int .i64 a0_0,.int .i64 a0_1,.int .i64 a0_2,.int .i64 a0_3] 37 (0,0)) (by (with_reducible repeat (first | refine blk_drewN ?_ _ | refine blk_drew ?_ | refine blk_alloc ?_ _)); exact BK158.out) hb); have n1_:=Aside0.mk (below_step (by repeat (first | (with_reducible first | exact HB.out | apply below_alloc | apply pw_below_drewN | apply below_drew1 | refine below_set ?_ GE158.out) | exact HB.out)) hb); have n2_:=Aside0.mk (hbox); have n3_:=Aside0.mk ((by rw [hg]; exact (below_size (by repeat (first | (with_reducible first | exact HB.out | apply below_alloc | apply pw_below_drewN | apply below_drew1 | refine below_set ?_ GE158.out) | exact HB.out))):w.heap.size ≤ gb159)); have n4_:=Aside0.mk ((by rw [hg]; exact (below_size (by repeat (first | (with_reducible first | exact HB.out | apply below_alloc | apply pw_below_drewN | apply below_drew1 | refine below_set ?_ GE158.out) | exact HB.out))):w.heap.size ≤ gb159)); have n5_:=Aside0.mk ((by rw [hg]; exact Nat.ne_of_lt (blk_lt (g:=gb158) (o:=.cells #[.int .i64 a0_0,.int .i64 a0_1,.int .i64 a0_2,.int .i64 a0_3] 37 (0,0)) (by (with_reducible repeat (first | refine blk_drewN ?_ _ | refine blk_drew ?_ | refine blk_alloc ?_ _)); exact BK158.out)):gb158 ≠ gb159)); have n6_:=Aside0.mk ((by rw [hg]; exact Nat.ne_of_gt (blk_lt (g:=gb158) (o:=.cells #[.int .i64 a0_0,.int .i64 a0_1,.int .i64 a0_2,.int .i64 a0_3] 37 (0,0)) (by (with_reducible repeat (first | refine blk_drewN ?_ _ | refine blk_drew ?_ | refine blk_alloc ?_ _)); exact BK158.out)):gb159 ≠ gb158)); clear BK158; clear HB; have BK158:=n0_; have HB:=n1_; have BK159:=n2_; have GW159:=n3_; have GE159:=n4_; have NB158_159:=n5_; have NB159_158:=n6_; clear n0_ n1_ n2_ n3_ n4_ n5_ n6_; clear hb hbox hg; have hnb8:=NB158_159.out; have hnc8:=NB159_158.out; have hcz9_0:w7.cell? ⟨gb158,0,none⟩ = some (.int .i64 a0_0):=(blk_cell BK158.out 0).trans rfl; have hcz9_1:w7.cell? ⟨gb158,1,none⟩ = some (.int .i64 a0_1):=(blk_cell BK158.out 1).trans rfl; have hcz9_2:w7.cell? ⟨gb158,2,none⟩ = some (.int .i64 a0_2):=(blk_cell BK158.out 2).trans rfl; have hcz9_3:w7.cell? ⟨gb158,3,none⟩ = some (.int .i64 a0_3):=(blk_cell BK158.out 3).trans rfl; have hfz9_0:=blk_frozen BK158.out 0; have hfz9_1:=blk_frozen BK158.out 1; have hfz9_2:=blk_frozen BK158.out 2; have hfz9_3:=blk_frozen BK158.out 3; have hcz10_0:w7.cell? ⟨gb159,0,none⟩ = some (.int .i64 a1_0):=(blk_cell BK159.out 0).trans rfl; have hcz10_1:w7.cell? ⟨gb159,1,none⟩ = some (.int .i64 a1_1):=(blk_cell BK159.out 1).trans rfl; have hcz10_2:w7.cell? ⟨gb159,2,none⟩ = some (.int .i64 a1_2):=(blk_cell BK159.out 2).trans rfl; have hcz10_3:w7.cell? ⟨gb159,3,none⟩ = some (.int .i64 a1_3):=(blk_cell BK159.out 3).trans rfl; have hfz10_0:=blk_frozen BK159.out 0; have hfz10_1:=blk_frozen BK159.out 1; have hfz10_2:=blk_frozen BK159.out 2; have hfz10_3:=blk_frozen BK159.out 3) | ((with_reducible refine gate_callee (f:=53) rfl ?_); refine goesL_ (some 11) rfl rfl Try.func53 (by kernel_rfl) rfl #[.agg #[.int .i64 a0_0,.int .i64 a0_1,.int .i64 a0_2,.int .i64 a0_3],.agg #[.int .i64 a1_0,.int .i64 a1_1,.int .i64 a1_2,.int .i64 a1_3]] rfl (by (try simp only [List.map_toArray,List.map_cons,List.map_nil]); first | done | rfl | (simp only [List.length_drop,List.length_take]; rfl)) ?_; (with_reducible refine (rect_Meet.calls a0_0 a0_1 a0_2 a0_3 a1_0 a1_1 a1_2 a1_3 t160 t161 t162 t163 _ A3.out).mono ?_); rintro e w11 ⟨rfl,hb⟩; refine ⟨_,rfl,?_⟩; have n0_:=Aside0.mk (blk_below (g:=gb158) (o:=.cells #[.int .i64 a0_0,.int .i64 a0_1,.int .i64 a0_2,.int .i64 a0_3] 37 (0,0)) (by (with_reducible repeat (first | refine blk_drewN ?_ _ | refine blk_drew ?_ | refine blk_alloc ?_ _)); exact BK158.out) hb); have n1_:=Aside0.mk (blk_below (g:=gb159) (o:=.cells #[.int .i64 a1_0,.int .i64 a1_1,.int .i64 a1_2,.int .i64 a1_3] 37 (0,0)) (by (with_reducible repeat (first | refine blk_drewN ?_ _ | refine blk_drew ?_ | refine blk_alloc ?_ _)); exact BK159.out) hb); have n2_:=Aside0.mk (below_step (by repeat (first | (with_reducible first | exact HB.out | apply below_alloc | apply pw_below_drewN | apply below_drew1 | refine below_set ?_ GE158.out | refine below_set ?_ GE159.out) | exact HB.out)) hb); clear BK158; clear BK159; clear HB; have BK158:=n0_; have BK159:=n1_; have HB:=n2_; clear n0_ n1_ n2_; (try clear hb); (try clear hb2); (try clear hk); (try clear hi)) | ((with_reducible refine gate_dst (N:=5) rfl ?_); refine box_event ?hg (N:=5) ?hd (cs:=#[.int .i64 0,.int .i64 0,.int .i64 0,.int .i64 0]) (t:=37) ?hr ?_; (case hd => rfl); (case hg => rfl); (case hr => first | (go_simp; done) | (go_simp; rfl)); intro gb164 hg w12 hbox hb; have n0_:=Aside0.mk (blk_below (g:=gb158) (o:=.cells #[.int .i64 a0_0,.int .i64 a0_1,.int .i64 a0_2,.int .i64 a0_3] 37 (0,0)) (by (with_reducible repeat (first | refine blk_drewN ?_ _ | refine blk_drew ?_ | refine blk_alloc ?_ _)); exact BK158.out) hb); have n1_:=Aside0.mk (blk_below (g:=gb159) (o:=.cells #[.int .i64 a1_0,.int .i64 a1_1,.int .i64 a1_2,.int .i64 a1_3] 37 (0,0)) (by (with_reducible repeat (first | refine blk_drewN ?_ _ | refine blk_drew ?_ | refine blk_alloc ?_ _)); exact BK159.out) hb); have n2_:=Aside0.mk (below_step (by repeat (first | (with_reducible first | exact HB.out | apply below_alloc | apply pw_below_drewN | apply below_drew1 | refine below_set ?_ GE158.out | refine below_set ?_ GE159.out) | exact HB.out)) hb); have n3_:=Aside0.mk (hbox); have n4_:=Aside0.mk ((by rw [hg]; exact (below_size (by repeat (first | (with_reducible first | exact HB.out | apply below_alloc | apply pw_below_drewN | apply below_drew1 | refine below_set ?_ GE158.out | refine below_set ?_ GE159.out) | exact HB.out))):w.heap.size ≤ gb164)); have n5_:=Aside0.mk ((by rw [hg]; exact (below_size (by repeat (first | (with_reducible first | exact HB.out | apply below_alloc | apply pw_below_drewN | apply below_drew1 | refine below_set ?_ GE158.out | refine below_set ?_ GE159.out) | exact HB.out))):w.heap.size ≤ gb164)); have n6_:=Aside0.mk ((by rw [hg]; exact Nat.ne_of_lt (blk_lt (g:=gb158) (o:=.cells #[.int .i64 a0_0,.int .i64 a0_1,.int .i64 a0_2,.int .i64 a0_3] 37 (0,0)) (by (with_reducible repeat (first | refine blk_drewN ?_ _ | refine blk_drew ?_ | refine blk_alloc ?_ _)); exact BK158.out)):gb158 ≠ gb164)); have n7_:=Aside0.mk ((by rw [hg]; exact Nat.ne_of_gt (blk_lt (g:=gb158) (o:=.cells #[.int .i64 a0_0,.int .i64 a0_1,.int .i64 a0_2,.int .i64 a0_3] 37 (0,0)) (by (with_reducible repeat (first | refine blk_drewN ?_ _ | refine blk_drew ?_ | refine blk_alloc ?_ _)); exact BK158.out)):gb164 ≠ gb158)); have n8_:=Aside0.mk ((by rw [hg]; exact Nat.ne_of_lt (blk_lt (g:=gb159) (o:=.cells #[.int .i64 a1_0,.int .i64 a1_1,.int .i64 a1_2,.int .i64 a1_3] 37 (0,0)) (by (with_reducible repeat (first | refine blk_drewN ?_ _ | refine blk_drew ?_ | refine blk_alloc ?_ _)); exact BK159.out)):gb159 ≠ gb164)); have n9_:=Aside0.mk ((by rw [hg]; exact Nat.ne_of_gt (blk_lt (g:=gb159) (o:=.cells #[.int .i64 a1_0,.int .i64 a1_1,.int .i64 a1_2,.int .i64 a1_3] 37 (0,0)) (by (with_reducible repeat (first | refine blk_drewN ?_ _ | refine blk_drew ?_ | refine blk_alloc ?_ _)); exact BK159.out)):gb164 ≠ gb159)); clear BK158; clear BK159; clear HB; have BK158:=n0_; have BK159:=n1_; have HB:=n2_; have BK164:=n3_; have GW164:=n4_; have GE164:=n5_; have NB158_164:=n6_; have NB164_158:=n7_; have NB159_164:=n8_; have NB164_159:=n9_; clear n0_ n1_ n2_ n3_ n4_ n5_ n6_ n7_ n8_ n9_; clear hb hbox hg; have hnb13:=NB164_158.out; have hnc13:=NB158_164.out; have hnb14:=NB164_159.out; have hnc14:=NB159_164.out; have hcz15_0:w12.cell? ⟨gb164,0,none⟩ = some (.int .i64 0):=(blk_cell BK164.out 0).trans rfl; have hcz15_1:w12.cell? ⟨gb164,1,none⟩ = some (.int .i64 0):=(blk_cell BK164.out 1).trans rfl; have hcz15_2:w12.cell? ⟨gb164,2,none⟩ = some (.int .i64 0):=(blk_cell BK164.out 2).trans rfl; have hcz15_3:w12.cell? ⟨gb164,3,none⟩ = some (.int .i64 0):=(blk_cell BK164.out 3).trans rfl; have hfz15_0:=blk_frozen BK164.out 0; have hfz15_1:=blk_frozen BK164.out 1; have hfz15_2:=blk_frozen BK164.out 2; have hfz15_3:=blk_frozen BK164.out 3) | ((with_reducible refine gate_callee (f:=55) rfl ?_); refine goesL_ (some 13) rfl rfl Try.func55 (by kernel_rfl) rfl #[.agg #[.int .i64 t160,.int .i64 t161,.int .i64 t162,.int .i64 t163]] rfl (by (try simp only [List.map_toArray,List.map_cons,List.map_nil]); first | done | rfl | (simp only [List.length_drop,List.length_take]; rfl)) ?_; (with_reducible refine (rect_Empty.calls t160 t161 t162 t163 t165 _ A4.out).mono ?_); rintro e w16 ⟨rfl,hb⟩; refine ⟨_,rfl,?_⟩; have n0_:=Aside0.mk (blk_below (g:=gb158) (o:=.cells #[.int .i64 a0_0,.int .i64 a0_1,.int .i64 a0_2,.int .i64 a0_3] 37 (0,0)) (by (with_reducible repeat (first | refine blk_drewN ?_ _ | refine blk_drew ?_ | refine blk_alloc ?_ _)); refine blk_far ?_ NB158_164.out _; (with_reducible repeat (first | refine blk_drewN ?_ _ | refine blk_drew ?_ | refine blk_alloc ?_ _)); refine blk_far ?_ NB158_164.out _; (with_reducible repeat (first | refine blk_drewN ?_ _ | refine blk_drew ?_ | refine blk_alloc ?_ _)); refine blk_far ?_ NB158_164.out _; (with_reducible repeat (first | refine blk_drewN ?_ _ | refine blk_drew ?_ | refine blk_alloc ?_ _)); refine blk_far ?_ NB158_164.out _; (with_reducible repeat (first | refine blk_drewN ?_ _ | refine blk_drew ?_ | refine blk_alloc ?_ _)); exact BK158.out) hb); have n1_:=Aside0.mk (blk_below (g:=gb159) (o:=.cells #[.int .i64 a1_0,.int .i64 a1_1,.int .i64 a1_2,.int .i64 a1_3] 37 (0,0)) (by (with_reducible repeat (first | refine blk_drewN ?_ _ | refine blk_drew ?_ | refine blk_alloc ?_ _)); refine blk_far ?_ NB159_164.out _; (with_reducible repeat (first | refine blk_drewN ?_ _ | refine blk_drew ?_ | refine blk_alloc ?_ _)); refine blk_far ?_ NB159_164.out _; (with_reducible repeat (first | refine blk_drewN ?_ _ | refine blk_drew ?_ | refine blk_alloc ?_ _)); refine blk_far ?_ NB159_164.out _; (with_reducible repeat (first | refine blk_drewN ?_ _ | refine blk_drew ?_ | refine blk_alloc ?_ _)); refine blk_far ?_ NB159_164.out _; (with_reducible repeat (first | refine blk_drewN ?_ _ | refine blk_drew ?_ | refine blk_alloc ?_ _)); exact BK159.out) hb); have n2_:=Aside0.mk (blk_below (g:=gb164) (o:=.cells #[.int .i64 t160,.int .i64 t161,.int .i64 t162,.int .i64 t163] 37 (0,0)) (by (with_reducible repeat (first | refine blk_drewN ?_ _ | refine blk_drew ?_ | refine blk_alloc ?_ _)); refine blk_put (cs:=#[.int .i64 t160,.int .i64 t161,.int .i64 t162,.int .i64 0]) ?_ 3 _ rfl; (with_reducible repeat (first | refine blk_drewN ?_ _ | refine blk_drew ?_ | refine blk_alloc ?_ _)); refine blk_put (cs:=#[.int .i64 t160,.int .i64 t161,.int .i64 0,.int .i64 0]) ?_ 2 _ rfl; (with_reducible repeat (first | refine blk_drewN ?_ _ | refine blk_drew ?_ | refine blk_alloc ?_ _)); refine blk_put (cs:=#[.int .i64 t160,.int .i64 0,.int .i64 0,.int .i64 0]) ?_ 1 _ rfl; (with_reducible repeat (first | refine blk_drewN ?_ _ | refine blk_drew ?_ | refine blk_alloc ?_ _)); refine blk_put (cs:=#[.int .i64 0,.int .i64 0,.int .i64 0,.int .i64 0]) ?_ 0 _ rfl; (with_reducible repeat (first | refine blk_drewN ?_ _ | refine blk_drew ?_ | refine blk_alloc ?_ _)); exact BK164.out) hb); have n3_:=Aside0.mk (below_step (by repeat (first | (with_reducible first | exact HB.out | apply below_alloc | apply pw_below_drewN | apply below_drew1 | refine below_set ?_ GE158.out | refine below_set ?_ GE159.out | refine below_set ?_ GE164.out) | exact HB.out)) hb); clear BK158; clear BK159; clear BK164; clear HB; have BK158:=n0_; have BK159:=n1_; have BK164:=n2_; have HB:=n3_; clear n0_ n1_ n2_ n3_; (try clear hb); (try clear hb2); (try clear hk); (try clear hi)))
 (try simp only [Act.put,List.setIfInBounds_toArray,List.set_cons_zero,List.set_cons_succ])
 go_cut [] (fun wc => ∃ (kq:Nat) (x165000_4:Int) (x165001_4:Int) (x165002_4:Int) (x165003_4:Int),Aside0 (rect_Cut.j0 kq a0_0 a0_1 a0_2 a0_3 x165000_4 x165001_4 x165002_4 x165003_4 = some r) ∧ Aside0 (kq ≤ k) ∧ Aside0 (wc.heap[gb158]? = some (.cells #[.int .i64 a0_0,.int .i64 a0_1,.int .i64 a0_2,.int .i64 a0_3] 37 (0,0))) ∧ Aside0 (wc.heap[gb159]? = some (.cells #[.int .i64 a1_0,.int .i64 a1_1,.int .i64 a1_2,.int .i64 a1_3] 37 (0,0))) ∧ Aside0 (wc.heap[gb164]? = some (.cells #[.int .i64 x165000_4,.int .i64 x165001_4,.int .i64 x165002_4,.int .i64 x165003_4] 37 (0,0))) ∧ Aside0 (Below w.heap.size w wc))
 case first =>
  have H:=HC5.out
  clear HC5
  by_cases c17:t165 = true
  ·subst c17
   have H1:(rect_Cut.j0 k a0_0 a0_1 a0_2 a0_3 a0_0 a0_3 a0_2 a0_3) = some r:=by rw [if_pos rfl] at H; exact H
   clear H
   have H:=H1
   clear H1
   have H':=Aside0.mk H
   clear H
   have hnb18:=NB158_159.out
   have hnc18:=NB159_158.out
   have hnb19:=NB158_164.out
   have hnc19:=NB164_158.out
   have hcz20_0:w16.cell? ⟨gb158,0,none⟩ = some (.int .i64 a0_0):=(blk_cell BK158.out 0).trans rfl
   have hcz20_1:w16.cell? ⟨gb158,1,none⟩ = some (.int .i64 a0_1):=(blk_cell BK158.out 1).trans rfl
   have hcz20_2:w16.cell? ⟨gb158,2,none⟩ = some (.int .i64 a0_2):=(blk_cell BK158.out 2).trans rfl
   have hcz20_3:w16.cell? ⟨gb158,3,none⟩ = some (.int .i64 a0_3):=(blk_cell BK158.out 3).trans rfl
   have hfz20_0:=blk_frozen BK158.out 0
   have hfz20_1:=blk_frozen BK158.out 1
   have hfz20_2:=blk_frozen BK158.out 2
   have hfz20_3:=blk_frozen BK158.out 3
   have hnb21:=NB164_159.out
   have hnc21:=NB159_164.out
   have hcz22_0:w16.cell? ⟨gb164,0,none⟩ = some (.int .i64 t160):=(blk_cell BK164.out 0).trans rfl
   have hcz22_1:w16.cell? ⟨gb164,1,none⟩ = some (.int .i64 t161):=(blk_cell BK164.out 1).trans rfl
   have hcz22_2:w16.cell? ⟨gb164,2,none⟩ = some (.int .i64 t162):=(blk_cell BK164.out 2).trans rfl
   have hcz22_3:w16.cell? ⟨gb164,3,none⟩ = some (.int .i64 t163):=(blk_cell BK164.out 3).trans rfl
   have hfz22_0:=blk_frozen BK164.out 0
   have hfz22_1:=blk_frozen BK164.out 1
   have hfz22_2:=blk_frozen BK164.out 2
   have hfz22_3:=blk_frozen BK164.out 3
   go_wp2
   go_meet
   case rel => exact ⟨_,(a0_0),(a0_3),(a0_2),(a0_3),H',⟨by first | omega | exact Nat.le_refl _⟩,⟨by (with_reducible repeat (first | refine blk_drewN ?_ _ | refine blk_drew ?_ | refine blk_alloc ?_ _)); refine blk_far ?_ NB158_164.out _; (with_reducible repeat (first | refine blk_drewN ?_ _ | refine blk_drew ?_ | refine blk_alloc ?_ _)); refine blk_far ?_ NB158_164.out _; (with_reducible repeat (first | refine blk_drewN ?_ _ | refine blk_drew ?_ | refine blk_alloc ?_ _)); refine blk_far ?_ NB158_164.out _; (with_reducible repeat (first | refine blk_drewN ?_ _ | refine blk_drew ?_ | refine blk_alloc ?_ _)); refine blk_far ?_ NB158_164.out _; (with_reducible repeat (first | refine blk_drewN ?_ _ | refine blk_drew ?_ | refine blk_alloc ?_ _)); exact BK158.out⟩,⟨by (with_reducible repeat (first | refine blk_drewN ?_ _ | refine blk_drew ?_ | refine blk_alloc ?_ _)); refine blk_far ?_ NB159_164.out _; (with_reducible repeat (first | refine blk_drewN ?_ _ | refine blk_drew ?_ | refine blk_alloc ?_ _)); refine blk_far ?_ NB159_164.out _; (with_reducible repeat (first | refine blk_drewN ?_ _ | refine blk_drew ?_ | refine blk_alloc ?_ _)); refine blk_far ?_ NB159_164.out _; (with_reducible repeat (first | refine blk_drewN ?_ _ | refine blk_drew ?_ | refine blk_alloc ?_ _)); refine blk_far ?_ NB159_164.out _; (with_reducible repeat (first | refine blk_drewN ?_ _ | refine blk_drew ?_ | refine blk_alloc ?_ _)); exact BK159.out⟩,⟨by (with_reducible repeat (first | refine blk_drewN ?_ _ | refine blk_drew ?_ | refine blk_alloc ?_ _)); refine blk_put (cs:=#[.int .i64 a0_0,.int .i64 a0_3,.int .i64 a0_2,.int .i64 t163]) ?_ 3 _ rfl; (with_reducible repeat (first | refine blk_drewN ?_ _ | refine blk_drew ?_ | refine blk_alloc ?_ _)); refine blk_put (cs:=#[.int .i64 a0_0,.int .i64 a0_3,.int .i64 t162,.int .i64 t163]) ?_ 2 _ rfl; (with_reducible repeat (first | refine blk_drewN ?_ _ | refine blk_drew ?_ | refine blk_alloc ?_ _)); refine blk_put (cs:=#[.int .i64 a0_0,.int .i64 t161,.int .i64 t162,.int .i64 t163]) ?_ 1 _ rfl; (with_reducible repeat (first | refine blk_drewN ?_ _ | refine blk_drew ?_ | refine blk_alloc ?_ _)); refine blk_put (cs:=#[.int .i64 t160,.int .i64 t161,.int .i64 t162,.int .i64 t163]) ?_ 0 _ rfl; (with_reducible repeat (first | refine blk_drewN ?_ _ | refine blk_drew ?_ | refine blk_alloc ?_ _)); exact BK164.out⟩,⟨by repeat (first | (with_reducible first | exact HB.out | apply below_alloc | apply pw_below_drewN | apply below_drew1 | refine below_set ?_ GE158.out | refine below_set ?_ GE159.out | refine below_set ?_ GE164.out) | exact HB.out)⟩⟩
  ·replace c17:=Bool.eq_false_iff.mpr c17
   subst c17
   have H1:(rect_Cut.j0 k a0_0 a0_1 a0_2 a0_3 t160 t161 t162 t163) = some r:=by rw [if_neg (show ¬ (false = true) by decide)] at H; exact H
   clear H
   have H:=H1
   clear H1
   have H':=Aside0.mk H
   clear H
   go_wp2
   go_meet
   case rel => exact ⟨_,(t160),(t161),(t162),(t163),H',⟨by first | omega | exact Nat.le_refl _⟩,⟨by (with_reducible repeat (first | refine blk_drewN ?_ _ | refine blk_drew ?_ | refine blk_alloc ?_ _)); exact BK158.out⟩,⟨by (with_reducible repeat (first | refine blk_drewN ?_ _ | refine blk_drew ?_ | refine blk_alloc ?_ _)); exact BK159.out⟩,⟨by (with_reducible repeat (first | refine blk_drewN ?_ _ | refine blk_drew ?_ | refine blk_alloc ?_ _)); exact BK164.out⟩,⟨by repeat (first | (with_reducible first | exact HB.out | apply below_alloc | apply pw_below_drewN | apply below_drew1 | refine below_set ?_ GE158.out | refine below_set ?_ GE159.out | refine below_set ?_ GE164.out) | exact HB.out)⟩⟩
 case rest =>
  clear HC5
  try clear c1
  try clear c2
  try clear p2
  try clear c5
  try clear c6
  try clear c8
  try clear c13
  try clear c14
  try clear c17
  try clear c18
  try clear c19
  try clear c21
  try clear hcz10_0
  try clear hcz10_1
  try clear hcz10_2
  try clear hcz10_3
  try clear hcz15_0
  try clear hcz15_1
  try clear hcz15_2
  try clear hcz15_3
  try clear hcz20_0
  try clear hcz20_1
  try clear hcz20_2
  try clear hcz20_3
  try clear hcz22_0
  try clear hcz22_1
  try clear hcz22_2
  try clear hcz22_3
  try clear hcz9_0
  try clear hcz9_1
  try clear hcz9_2
  try clear hcz9_3
  try clear hfz10_0
  try clear hfz10_1
  try clear hfz10_2
  try clear hfz10_3
  try clear hfz15_0
  try clear hfz15_1
  try clear hfz15_2
  try clear hfz15_3
  try clear hfz20_0
  try clear hfz20_1
  try clear hfz20_2
  try clear hfz20_3
  try clear hfz22_0
  try clear hfz22_1
  try clear hfz22_2
  try clear hfz22_3
  try clear hfz9_0
  try clear hfz9_1
  try clear hfz9_2
  try clear hfz9_3
  obtain ⟨kq,x165000_4,x165001_4,x165002_4,x165003_4,HA,HJ4,BK158,BK159,BK164,HB⟩:=hcut
  cases kq with
  | zero => exact absurd HA.out (by simp [rect_Cut.j0])
  | succ kj4 =>
   have H:=HA.out
   clear HA
   simp only [rect_Cut.j0] at H
   obtain ⟨y166,hy166⟩:∃ y_:List (S37),y_ = (([(⟨a0_0,a0_1,a0_2,x165001_4⟩:S37),(⟨a0_0,x165003_4,a0_2,a0_3⟩:S37),(⟨a0_0,x165001_4,x165000_4,x165003_4⟩:S37),(⟨x165002_4,x165001_4,a0_2,x165003_4⟩:S37)]:List (S37))):=⟨_,rfl⟩
   replace H:(rect_Cut.l0 kj4 ([]:List (S37)) y166 (y166.length:Int) 0) = some r:=by first | (rw [hy166]; with_reducible exact H) | (have H2_:=(Option.bind_some _ _).symm.trans H; rw [hy166]; with_reducible exact H2_) | (have H2_:=(Option.bind_some _ _).symm.trans H; with_reducible exact H2_) | with_reducible exact H | (rw [hy166]; exact H) | exact H
   have Ny166:=Aside0.mk hy166
   clear hy166
   have H':=Aside0.mk H
   clear H
   have hnb23:=NB158_159.out
   have hnc23:=NB159_158.out
   have hnb24:=NB158_164.out
   have hnc24:=NB164_158.out
   have hcz25_0:wc.cell? ⟨gb158,0,none⟩ = some (.int .i64 a0_0):=(blk_cell BK158.out 0).trans rfl
   have hcz25_1:wc.cell? ⟨gb158,1,none⟩ = some (.int .i64 a0_1):=(blk_cell BK158.out 1).trans rfl
   have hcz25_2:wc.cell? ⟨gb158,2,none⟩ = some (.int .i64 a0_2):=(blk_cell BK158.out 2).trans rfl
   have hcz25_3:wc.cell? ⟨gb158,3,none⟩ = some (.int .i64 a0_3):=(blk_cell BK158.out 3).trans rfl
   have hfz25_0:=blk_frozen BK158.out 0
   have hfz25_1:=blk_frozen BK158.out 1
   have hfz25_2:=blk_frozen BK158.out 2
   have hfz25_3:=blk_frozen BK158.out 3
   have hnb26:=NB164_159.out
   have hnc26:=NB159_164.out
   have hcz27_0:wc.cell? ⟨gb164,0,none⟩ = some (.int .i64 x165000_4):=(blk_cell BK164.out 0).trans rfl
   have hcz27_1:wc.cell? ⟨gb164,1,none⟩ = some (.int .i64 x165001_4):=(blk_cell BK164.out 1).trans rfl
   have hcz27_2:wc.cell? ⟨gb164,2,none⟩ = some (.int .i64 x165002_4):=(blk_cell BK164.out 2).trans rfl
   have hcz27_3:wc.cell? ⟨gb164,3,none⟩ = some (.int .i64 x165003_4):=(blk_cell BK164.out 3).trans rfl
   have hfz27_0:=blk_frozen BK164.out 0
   have hfz27_1:=blk_frozen BK164.out 1
   have hfz27_2:=blk_frozen BK164.out 2
   have hfz27_3:=blk_frozen BK164.out 3
   go_wp2_with (first | ((with_reducible refine gate_dst (N:=59) rfl ?_); refine Kd.R_lit k37 _ 37 ?hg (N:=59) ?hd (xs:=([(⟨a0_0,a0_1,a0_2,x165001_4⟩:S37),(⟨a0_0,x165003_4,a0_2,a0_3⟩:S37),(⟨a0_0,x165001_4,x165000_4,x165003_4⟩:S37),(⟨x165002_4,x165001_4,a0_2,x165003_4⟩:S37)]:List (S37))) (inner:=[.int .i64 a0_0,.int .i64 a0_1,.int .i64 a0_2,.int .i64 x165001_4,.int .i64 a0_0,.int .i64 x165003_4,.int .i64 a0_2,.int .i64 a0_3,.int .i64 a0_0,.int .i64 x165001_4,.int .i64 x165000_4,.int .i64 x165003_4,.int .i64 x165002_4,.int .i64 x165001_4,.int .i64 a0_2,.int .i64 x165003_4]) (ok:=fun _ => True) (okp:=fun _ => True) ?hr ?hp (fun _ hk => hk) trivial (Below.refl _ _) (Nat.le_refl _) (by simp) ?_; (case hd => rfl); (case hg => rfl); (case hr => first | (go_simp; done) | (go_simp; rfl)); (case hp => exact (Reps.c4 (show Kd.M k37 _ _ _ (⟨a0_0,a0_1,a0_2,x165001_4⟩:S37) [.int .i64 a0_0,.int .i64 a0_1,.int .i64 a0_2,.int .i64 x165001_4] from (k37_mkM _ _ _ (⟨a0_0,a0_1,a0_2,x165001_4⟩:S37) )) (Reps.c4 (show Kd.M k37 _ _ _ (⟨a0_0,x165003_4,a0_2,a0_3⟩:S37) [.int .i64 a0_0,.int .i64 x165003_4,.int .i64 a0_2,.int .i64 a0_3] from (k37_mkM _ _ _ (⟨a0_0,x165003_4,a0_2,a0_3⟩:S37) )) (Reps.c4 (show Kd.M k37 _ _ _ (⟨a0_0,x165001_4,x165000_4,x165003_4⟩:S37) [.int .i64 a0_0,.int .i64 x165001_4,.int .i64 x165000_4,.int .i64 x165003_4] from (k37_mkM _ _ _ (⟨a0_0,x165001_4,x165000_4,x165003_4⟩:S37) )) (Reps.c4 (show Kd.M k37 _ _ _ (⟨x165002_4,x165001_4,a0_2,x165003_4⟩:S37) [.int .i64 x165002_4,.int .i64 x165001_4,.int .i64 a0_2,.int .i64 x165003_4] from (k37_mkM _ _ _ (⟨x165002_4,x165001_4,a0_2,x165003_4⟩:S37) )) (Reps.none _ _)))))); intro v167 w28 ho29 hb hg_ hnew_; clear hg_ hnew_; (first | rw [← Ny166.out] at ho29 | (simp only [Int.reduceToNat] at ho29; rw [← Ny166.out] at ho29)); have n0_:=Aside0.mk (Kd.R_lower (Kd.R_newB (Kd.R_newB (Kd.R_newB ho29 (g:=gb158) (o:=.cells #[.int .i64 a0_0,.int .i64 a0_1,.int .i64 a0_2,.int .i64 a0_3] 37 (0,0)) (by (with_reducible repeat (first | refine blk_drewN ?_ _ | refine blk_drew ?_ | refine blk_alloc ?_ _)); exact BK158.out)) (g:=gb159) (o:=.cells #[.int .i64 a1_0,.int .i64 a1_1,.int .i64 a1_2,.int .i64 a1_3] 37 (0,0)) (by (with_reducible repeat (first | refine blk_drewN ?_ _ | refine blk_drew ?_ | refine blk_alloc ?_ _)); exact BK159.out)) (g:=gb164) (o:=.cells #[.int .i64 x165000_4,.int .i64 x165001_4,.int .i64 x165002_4,.int .i64 x165003_4] 37 (0,0)) (by (with_reducible repeat (first | refine blk_drewN ?_ _ | refine blk_drew ?_ | refine blk_alloc ?_ _)); exact BK164.out)) (below_size (by repeat (first | (with_reducible first | exact HB.out | apply below_alloc | apply pw_below_drewN | apply below_drew1 | refine below_set ?_ GE158.out | refine below_set ?_ GE159.out | refine below_set ?_ GE164.out) | exact HB.out)))); have n1_:=Aside0.mk (blk_below (g:=gb158) (o:=.cells #[.int .i64 a0_0,.int .i64 a0_1,.int .i64 a0_2,.int .i64 a0_3] 37 (0,0)) (by (with_reducible repeat (first | refine blk_drewN ?_ _ | refine blk_drew ?_ | refine blk_alloc ?_ _)); exact BK158.out) hb); have n2_:=Aside0.mk (blk_below (g:=gb159) (o:=.cells #[.int .i64 a1_0,.int .i64 a1_1,.int .i64 a1_2,.int .i64 a1_3] 37 (0,0)) (by (with_reducible repeat (first | refine blk_drewN ?_ _ | refine blk_drew ?_ | refine blk_alloc ?_ _)); exact BK159.out) hb); have n3_:=Aside0.mk (blk_below (g:=gb164) (o:=.cells #[.int .i64 x165000_4,.int .i64 x165001_4,.int .i64 x165002_4,.int .i64 x165003_4] 37 (0,0)) (by (with_reducible repeat (first | refine blk_drewN ?_ _ | refine blk_drew ?_ | refine blk_alloc ?_ _)); exact BK164.out) hb); have n4_:=Aside0.mk (below_step (by repeat (first | (with_reducible first | exact HB.out | apply below_alloc | apply pw_below_drewN | apply below_drew1 | refine below_set ?_ GE158.out | refine below_set ?_ GE159.out | refine below_set ?_ GE164.out) | exact HB.out)) hb); clear BK158; clear BK159; clear BK164; clear HB; have HO168:=n0_; have BK158:=n1_; have BK159:=n2_; have BK164:=n3_; have HB:=n4_; clear n0_ n1_ n2_ n3_ n4_; clear hb ho29; obtain ⟨Ao30,co30,eo30⟩:=Kd.R_slice HO168.out; subst eo30))
   go_loopg [6,61] kj4 (fun kq v6 v61 w' => ∃ (x6_2:List (S37)) (x61_2:Int),v61 = .int .i64 x61_2 ∧ Aside0 (rect_Cut.l0 kq x6_2 y166 (y166.length:Int) x61_2 = some r) ∧ Aside0 (kq ≤ kj4) ∧ Aside0 (Kd.R k37 37 w' w.heap.size (fun k_ => some k_ ≠ ((.slice Ao30 y166.length co30):Value).ownBlock ∧ k_ ≠ gb158 ∧ k_ ≠ gb159 ∧ k_ ≠ gb164) v6 x6_2) ∧ Aside0 (Kd.R k37 37 w' w.heap.size (fun k_ => some k_ ≠ (v6:Value).ownBlock ∧ k_ ≠ gb158 ∧ k_ ≠ gb159 ∧ k_ ≠ gb164) (.slice Ao30 y166.length co30) y166) ∧ Aside0 (w'.heap[gb158]? = some (.cells #[.int .i64 a0_0,.int .i64 a0_1,.int .i64 a0_2,.int .i64 a0_3] 37 (0,0))) ∧ Aside0 (w'.heap[gb159]? = some (.cells #[.int .i64 a1_0,.int .i64 a1_1,.int .i64 a1_2,.int .i64 a1_3] 37 (0,0))) ∧ Aside0 (w'.heap[gb164]? = some (.cells #[.int .i64 x165000_4,.int .i64 x165001_4,.int .i64 x165002_4,.int .i64 x165003_4] 37 (0,0))) ∧ Aside0 (Below w.heap.size w w'))
   case atStart => exact ⟨(([]:List (S37))),(0),(by first | rfl | (simp; done) | (simp [*]; done)),H',⟨Nat.le_refl _⟩,⟨by first | exact Kd.R_nil _ _ _ _ _ | exact Kd.N_nil _ _ _ _ _ | exact Kd.V_nil _ _ _ _ _ | exact Kd.Q_nil _ _ _ _ _ | exact Kd.S_nil _ _ _ _ _⟩,⟨by (with_reducible repeat (first | apply Kd.R_alloc | apply Kd.R_drewN | apply Kd.R_drew)); exact Kd.R_mono HO168.out (fun _ hk => ⟨(by simp [Value.ownBlock]),⟨hk.1.1.2,⟨hk.1.2,hk.2⟩⟩⟩)⟩,⟨by (with_reducible repeat (first | refine blk_drewN ?_ _ | refine blk_drew ?_ | refine blk_alloc ?_ _)); exact BK158.out⟩,⟨by (with_reducible repeat (first | refine blk_drewN ?_ _ | refine blk_drew ?_ | refine blk_alloc ?_ _)); exact BK159.out⟩,⟨by (with_reducible repeat (first | refine blk_drewN ?_ _ | refine blk_drew ?_ | refine blk_alloc ?_ _)); exact BK164.out⟩,⟨by repeat (first | (with_reducible first | exact HB.out | apply below_alloc | apply pw_below_drewN | apply below_drew1 | refine below_set ?_ GE158.out | refine below_set ?_ GE159.out | refine below_set ?_ GE164.out) | exact HB.out)⟩⟩
   case round =>
    clear H'
    try clear c1
    try clear c2
    try clear p2
    try clear c4
    try clear c5
    try clear c6
    try clear c8
    try clear c13
    try clear c14
    try clear c17
    try clear c18
    try clear c19
    try clear c21
    try clear c23
    try clear c24
    try clear c26
    try clear hcz10_0
    try clear hcz10_1
    try clear hcz10_2
    try clear hcz10_3
    try clear hcz15_0
    try clear hcz15_1
    try clear hcz15_2
    try clear hcz15_3
    try clear hcz20_0
    try clear hcz20_1
    try clear hcz20_2
    try clear hcz20_3
    try clear hcz22_0
    try clear hcz22_1
    try clear hcz22_2
    try clear hcz22_3
    try clear hcz25_0
    try clear hcz25_1
    try clear hcz25_2
    try clear hcz25_3
    try clear hcz27_0
    try clear hcz27_1
    try clear hcz27_2
    try clear hcz27_3
    try clear hcz9_0
    try clear hcz9_1
    try clear hcz9_2
    try clear hcz9_3
    try clear hfz10_0
    try clear hfz10_1
    try clear hfz10_2
    try clear hfz10_3
    try clear hfz15_0
    try clear hfz15_1
    try clear hfz15_2
    try clear hfz15_3
    try clear hfz20_0
    try clear hfz20_1
    try clear hfz20_2
    try clear hfz20_3
    try clear hfz22_0
    try clear hfz22_1
    try clear hfz22_2
    try clear hfz22_3
    try clear hfz25_0
    try clear hfz25_1
    try clear hfz25_2
    try clear hfz25_3
    try clear hfz27_0
    try clear hfz27_1
    try clear hfz27_2
    try clear hfz27_3
    try clear hfz9_0
    try clear hfz9_1
    try clear hfz9_2
    try clear hfz9_3
    try clear p2
    obtain ⟨x6_2,x61_2,rfl,HA,HK2,HO_6,HO_59,BK158,BK159,BK164,HB⟩:=hrel
    cases gk with
    | zero => exact absurd HA.out (by simp [rect_Cut.l0])
    | succ k2 =>
     have H:=HA.out
     clear HA
     simp only [rect_Cut.l0] at H
     by_cases c31:x61_2 < (y166.length:Int)
     ·rw [if_pos c31] at H
      have c31b0:decide (x61_2 < (y166.length:Int)) = true:=decide_eq_true c31
      clear c31
      by_cases c32:0 ≤ x61_2
      ·rw [if_pos c32] at H
       have c32b0:decide (0 ≤ x61_2) = true:=decide_eq_true c32
       clear c32
       by_cases c33:x61_2 < (y166.length:Int)
       ·rw [if_pos c33] at H
        have c33b0:decide (x61_2 < (y166.length:Int)) = true:=decide_eq_true c33
        clear c33
        replace H:=Option.bind_eq_some_iff.mp H
        obtain ⟨t171,A340,H⟩:=H
        replace H:(if t171 = true then (rect_Cut.l0 k2 x6_2 y166 (y166.length:Int) (wrap64 (x61_2 + 1))) else (if x6_2.length < 4398046511104 then (rect_Cut.l0 k2 (x6_2 ++ [(⟨(rd_T37 y166 x61_2).f0,(rd_T37 y166 x61_2).f1,(rd_T37 y166 x61_2).f2,(rd_T37 y166 x61_2).f3⟩:S37)]) y166 (y166.length:Int) (wrap64 (x61_2 + 1))) else (none))) = some r:=H
        have A34:=Aside0.mk A340
        clear A340
        by_cases c35:t171 = true
        ·subst c35
         have H1:(rect_Cut.l0 k2 x6_2 y166 (y166.length:Int) (wrap64 (x61_2 + 1))) = some r:=by rw [if_pos rfl] at H; exact H
         clear H
         have H:=H1
         clear H1
         have H':=Aside0.mk H
         clear H
         have p169:0 ≤ (x61_2:Int):=of_decide_eq_true (by first | (with_reducible assumption) | assumption)
         have q169:x61_2 < (y166.length:Int):=of_decide_eq_true (by first | (with_reducible assumption) | assumption)
         obtain ⟨ad169,e169,hx169_0,hx169_1,hx169_2,hx169_3⟩:=at_T37 (Kd.R_reads' HO_59.out).2.2 x61_2 p169 q169
         cases e169
         replace p169:=eq_true p169
         replace q169:=eq_true q169
         go_wp2_with (first | ((with_reducible refine gate_dst (N:=8) rfl ?_); refine box_event ?hg (N:=8) ?hd (cs:=#[.int .i64 0,.int .i64 0,.int .i64 0,.int .i64 0]) (t:=37) ?hr ?_; (case hd => rfl); (case hg => rfl); (case hr => first | (go_simp; done) | (go_simp; rfl)); intro gb170 hg w36 hbox hb; have n0_:=Aside0.mk (Kd.R_below (Kd.R_elderB (by (with_reducible repeat (first | apply Kd.R_alloc | apply Kd.R_drewN | apply Kd.R_drew)); exact HO_6.out) gb170 (Nat.le_of_eq hg.symm)) hb); have n1_:=Aside0.mk (Kd.R_below (Kd.R_elderB (by (with_reducible repeat (first | apply Kd.R_alloc | apply Kd.R_drewN | apply Kd.R_drew)); exact HO_59.out) gb170 (Nat.le_of_eq hg.symm)) hb); have n2_:=Aside0.mk (blk_below (g:=gb158) (o:=.cells #[.int .i64 a0_0,.int .i64 a0_1,.int .i64 a0_2,.int .i64 a0_3] 37 (0,0)) (by (with_reducible repeat (first | refine blk_drewN ?_ _ | refine blk_drew ?_ | refine blk_alloc ?_ _)); exact BK158.out) hb); have n3_:=Aside0.mk (blk_below (g:=gb159) (o:=.cells #[.int .i64 a1_0,.int .i64 a1_1,.int .i64 a1_2,.int .i64 a1_3] 37 (0,0)) (by (with_reducible repeat (first | refine blk_drewN ?_ _ | refine blk_drew ?_ | refine blk_alloc ?_ _)); exact BK159.out) hb); have n4_:=Aside0.mk (blk_below (g:=gb164) (o:=.cells #[.int .i64 x165000_4,.int .i64 x165001_4,.int .i64 x165002_4,.int .i64 x165003_4] 37 (0,0)) (by (with_reducible repeat (first | refine blk_drewN ?_ _ | refine blk_drew ?_ | refine blk_alloc ?_ _)); exact BK164.out) hb); have n5_:=Aside0.mk (below_step (by repeat (first | (with_reducible first | exact HB.out | apply below_alloc | apply pw_below_drewN | apply below_drew1 | refine below_set ?_ GE158.out | refine below_set ?_ GE159.out | refine below_set ?_ GE164.out) | exact HB.out)) hb); have n6_:=Aside0.mk (hbox); have n7_:=Aside0.mk ((by rw [hg]; exact (below_size (by repeat (first | (with_reducible first | exact HB.out | apply below_alloc | apply pw_below_drewN | apply below_drew1 | refine below_set ?_ GE158.out | refine below_set ?_ GE159.out | refine below_set ?_ GE164.out) | exact HB.out))):w.heap.size ≤ gb170)); have n8_:=Aside0.mk ((by rw [hg]; exact (below_size (by repeat (first | (with_reducible first | exact HB.out | apply below_alloc | apply pw_below_drewN | apply below_drew1 | refine below_set ?_ GE158.out | refine below_set ?_ GE159.out | refine below_set ?_ GE164.out) | exact HB.out))):w.heap.size ≤ gb170)); have n9_:=Aside0.mk ((by rw [hg]; exact Nat.ne_of_lt (blk_lt (g:=gb158) (o:=.cells #[.int .i64 a0_0,.int .i64 a0_1,.int .i64 a0_2,.int .i64 a0_3] 37 (0,0)) (by (with_reducible repeat (first | refine blk_drewN ?_ _ | refine blk_drew ?_ | refine blk_alloc ?_ _)); exact BK158.out)):gb158 ≠ gb170)); have n10_:=Aside0.mk ((by rw [hg]; exact Nat.ne_of_gt (blk_lt (g:=gb158) (o:=.cells #[.int .i64 a0_0,.int .i64 a0_1,.int .i64 a0_2,.int .i64 a0_3] 37 (0,0)) (by (with_reducible repeat (first | refine blk_drewN ?_ _ | refine blk_drew ?_ | refine blk_alloc ?_ _)); exact BK158.out)):gb170 ≠ gb158)); have n11_:=Aside0.mk ((by rw [hg]; exact Nat.ne_of_lt (blk_lt (g:=gb159) (o:=.cells #[.int .i64 a1_0,.int .i64 a1_1,.int .i64 a1_2,.int .i64 a1_3] 37 (0,0)) (by (with_reducible repeat (first | refine blk_drewN ?_ _ | refine blk_drew ?_ | refine blk_alloc ?_ _)); exact BK159.out)):gb159 ≠ gb170)); have n12_:=Aside0.mk ((by rw [hg]; exact Nat.ne_of_gt (blk_lt (g:=gb159) (o:=.cells #[.int .i64 a1_0,.int .i64 a1_1,.int .i64 a1_2,.int .i64 a1_3] 37 (0,0)) (by (with_reducible repeat (first | refine blk_drewN ?_ _ | refine blk_drew ?_ | refine blk_alloc ?_ _)); exact BK159.out)):gb170 ≠ gb159)); have n13_:=Aside0.mk ((by rw [hg]; exact Nat.ne_of_lt (blk_lt (g:=gb164) (o:=.cells #[.int .i64 x165000_4,.int .i64 x165001_4,.int .i64 x165002_4,.int .i64 x165003_4] 37 (0,0)) (by (with_reducible repeat (first | refine blk_drewN ?_ _ | refine blk_drew ?_ | refine blk_alloc ?_ _)); exact BK164.out)):gb164 ≠ gb170)); have n14_:=Aside0.mk ((by rw [hg]; exact Nat.ne_of_gt (blk_lt (g:=gb164) (o:=.cells #[.int .i64 x165000_4,.int .i64 x165001_4,.int .i64 x165002_4,.int .i64 x165003_4] 37 (0,0)) (by (with_reducible repeat (first | refine blk_drewN ?_ _ | refine blk_drew ?_ | refine blk_alloc ?_ _)); exact BK164.out)):gb170 ≠ gb164)); clear HO_6; clear HO_59; clear BK158; clear BK159; clear BK164; clear HB; have HO_6:=n0_; have HO_59:=n1_; have BK158:=n2_; have BK159:=n3_; have BK164:=n4_; have HB:=n5_; have BK170:=n6_; have GW170:=n7_; have GE170:=n8_; have NB158_170:=n9_; have NB170_158:=n10_; have NB159_170:=n11_; have NB170_159:=n12_; have NB164_170:=n13_; have NB170_164:=n14_; clear n0_ n1_ n2_ n3_ n4_ n5_ n6_ n7_ n8_ n9_ n10_ n11_ n12_ n13_ n14_; clear hb hbox hg; have hnb37:=NB170_158.out; have hnc37:=NB158_170.out; have hnb38:=NB170_159.out; have hnc38:=NB159_170.out; have hnb39:=NB170_164.out; have hnc39:=NB164_170.out; have hcz40_0:w36.cell? ⟨gb170,0,none⟩ = some (.int .i64 0):=(blk_cell BK170.out 0).trans rfl; have hcz40_1:w36.cell? ⟨gb170,1,none⟩ = some (.int .i64 0):=(blk_cell BK170.out 1).trans rfl; have hcz40_2:w36.cell? ⟨gb170,2,none⟩ = some (.int .i64 0):=(blk_cell BK170.out 2).trans rfl; have hcz40_3:w36.cell? ⟨gb170,3,none⟩ = some (.int .i64 0):=(blk_cell BK170.out 3).trans rfl; have hfz40_0:=blk_frozen BK170.out 0; have hfz40_1:=blk_frozen BK170.out 1; have hfz40_2:=blk_frozen BK170.out 2; have hfz40_3:=blk_frozen BK170.out 3) | ((with_reducible refine gate_callee (f:=55) rfl ?_); refine goesL_ (some 66) rfl rfl Try.func55 (by kernel_rfl) rfl #[.agg #[.int .i64 ((rd_T37 y166 x61_2).f0),.int .i64 ((rd_T37 y166 x61_2).f1),.int .i64 ((rd_T37 y166 x61_2).f2),.int .i64 ((rd_T37 y166 x61_2).f3)]] rfl (by (try simp only [List.map_toArray,List.map_cons,List.map_nil]); first | done | rfl | (simp only [List.length_drop,List.length_take]; rfl)) ?_; (with_reducible refine (rect_Empty.calls ((rd_T37 y166 x61_2).f0) ((rd_T37 y166 x61_2).f1) ((rd_T37 y166 x61_2).f2) ((rd_T37 y166 x61_2).f3) true _ A34.out).mono ?_); rintro e w41 ⟨rfl,hb⟩; refine ⟨_,rfl,?_⟩; have n0_:=Aside0.mk (Kd.R_below (by (with_reducible repeat (first | apply Kd.R_alloc | apply Kd.R_drewN | apply Kd.R_drew)); exact (Kd.R_mono (Kd.R_far (p:=⟨gb170,3,none⟩) (Kd.R_far (p:=⟨gb170,2,none⟩) (Kd.R_far (p:=⟨gb170,1,none⟩) (Kd.R_far (p:=⟨gb170,0,none⟩) (Kd.R_mono HO_6.out (fun k_ hk => (⟨hk,hk.2⟩:_ ∧ k_ ≠ gb170))) (fun _ hk => hk.2) (.int .i64 ((rd_T37 y166 x61_2).f0))) (fun _ hk => hk.2) (.int .i64 ((rd_T37 y166 x61_2).f1))) (fun _ hk => hk.2) (.int .i64 ((rd_T37 y166 x61_2).f2))) (fun _ hk => hk.2) (.int .i64 ((rd_T37 y166 x61_2).f3))) (fun _ h_ => h_.1))) hb); have n1_:=Aside0.mk (Kd.R_below (by (with_reducible repeat (first | apply Kd.R_alloc | apply Kd.R_drewN | apply Kd.R_drew)); exact (Kd.R_mono (Kd.R_far (p:=⟨gb170,3,none⟩) (Kd.R_far (p:=⟨gb170,2,none⟩) (Kd.R_far (p:=⟨gb170,1,none⟩) (Kd.R_far (p:=⟨gb170,0,none⟩) (Kd.R_mono HO_59.out (fun k_ hk => (⟨hk,hk.2⟩:_ ∧ k_ ≠ gb170))) (fun _ hk => hk.2) (.int .i64 ((rd_T37 y166 x61_2).f0))) (fun _ hk => hk.2) (.int .i64 ((rd_T37 y166 x61_2).f1))) (fun _ hk => hk.2) (.int .i64 ((rd_T37 y166 x61_2).f2))) (fun _ hk => hk.2) (.int .i64 ((rd_T37 y166 x61_2).f3))) (fun _ h_ => h_.1))) hb); have n2_:=Aside0.mk (blk_below (g:=gb158) (o:=.cells #[.int .i64 a0_0,.int .i64 a0_1,.int .i64 a0_2,.int .i64 a0_3] 37 (0,0)) (by (with_reducible repeat (first | refine blk_drewN ?_ _ | refine blk_drew ?_ | refine blk_alloc ?_ _)); refine blk_far ?_ NB158_170.out _; (with_reducible repeat (first | refine blk_drewN ?_ _ | refine blk_drew ?_ | refine blk_alloc ?_ _)); refine blk_far ?_ NB158_170.out _; (with_reducible repeat (first | refine blk_drewN ?_ _ | refine blk_drew ?_ | refine blk_alloc ?_ _)); refine blk_far ?_ NB158_170.out _; (with_reducible repeat (first | refine blk_drewN ?_ _ | refine blk_drew ?_ | refine blk_alloc ?_ _)); refine blk_far ?_ NB158_170.out _; (with_reducible repeat (first | refine blk_drewN ?_ _ | refine blk_drew ?_ | refine blk_alloc ?_ _)); exact BK158.out) hb); have n3_:=Aside0.mk (blk_below (g:=gb159) (o:=.cells #[.int .i64 a1_0,.int .i64 a1_1,.int .i64 a1_2,.int .i64 a1_3] 37 (0,0)) (by (with_reducible repeat (first | refine blk_drewN ?_ _ | refine blk_drew ?_ | refine blk_alloc ?_ _)); refine blk_far ?_ NB159_170.out _; (with_reducible repeat (first | refine blk_drewN ?_ _ | refine blk_drew ?_ | refine blk_alloc ?_ _)); refine blk_far ?_ NB159_170.out _; (with_reducible repeat (first | refine blk_drewN ?_ _ | refine blk_drew ?_ | refine blk_alloc ?_ _)); refine blk_far ?_ NB159_170.out _; (with_reducible repeat (first | refine blk_drewN ?_ _ | refine blk_drew ?_ | refine blk_alloc ?_ _)); refine blk_far ?_ NB159_170.out _; (with_reducible repeat (first | refine blk_drewN ?_ _ | refine blk_drew ?_ | refine blk_alloc ?_ _)); exact BK159.out) hb); have n4_:=Aside0.mk (blk_below (g:=gb164) (o:=.cells #[.int .i64 x165000_4,.int .i64 x165001_4,.int .i64 x165002_4,.int .i64 x165003_4] 37 (0,0)) (by (with_reducible repeat (first | refine blk_drewN ?_ _ | refine blk_drew ?_ | refine blk_alloc ?_ _)); refine blk_far ?_ NB164_170.out _; (with_reducible repeat (first | refine blk_drewN ?_ _ | refine blk_drew ?_ | refine blk_alloc ?_ _)); refine blk_far ?_ NB164_170.out _; (with_reducible repeat (first | refine blk_drewN ?_ _ | refine blk_drew ?_ | refine blk_alloc ?_ _)); refine blk_far ?_ NB164_170.out _; (with_reducible repeat (first | refine blk_drewN ?_ _ | refine blk_drew ?_ | refine blk_alloc ?_ _)); refine blk_far ?_ NB164_170.out _; (with_reducible repeat (first | refine blk_drewN ?_ _ | refine blk_drew ?_ | refine blk_alloc ?_ _)); exact BK164.out) hb); have n5_:=Aside0.mk (blk_below (g:=gb170) (o:=.cells #[.int .i64 ((rd_T37 y166 x61_2).f0),.int .i64 ((rd_T37 y166 x61_2).f1),.int .i64 ((rd_T37 y166 x61_2).f2),.int .i64 ((rd_T37 y166 x61_2).f3)] 37 (0,0)) (by (with_reducible repeat (first | refine blk_drewN ?_ _ | refine blk_drew ?_ | refine blk_alloc ?_ _)); refine blk_put (cs:=#[.int .i64 ((rd_T37 y166 x61_2).f0),.int .i64 ((rd_T37 y166 x61_2).f1),.int .i64 ((rd_T37 y166 x61_2).f2),.int .i64 0]) ?_ 3 _ rfl; (with_reducible repeat (first | refine blk_drewN ?_ _ | refine blk_drew ?_ | refine blk_alloc ?_ _)); refine blk_put (cs:=#[.int .i64 ((rd_T37 y166 x61_2).f0),.int .i64 ((rd_T37 y166 x61_2).f1),.int .i64 0,.int .i64 0]) ?_ 2 _ rfl; (with_reducible repeat (first | refine blk_drewN ?_ _ | refine blk_drew ?_ | refine blk_alloc ?_ _)); refine blk_put (cs:=#[.int .i64 ((rd_T37 y166 x61_2).f0),.int .i64 0,.int .i64 0,.int .i64 0]) ?_ 1 _ rfl; (with_reducible repeat (first | refine blk_drewN ?_ _ | refine blk_drew ?_ | refine blk_alloc ?_ _)); refine blk_put (cs:=#[.int .i64 0,.int .i64 0,.int .i64 0,.int .i64 0]) ?_ 0 _ rfl; (with_reducible repeat (first | refine blk_drewN ?_ _ | refine blk_drew ?_ | refine blk_alloc ?_ _)); exact BK170.out) hb); have n6_:=Aside0.mk (below_step (by repeat (first | (with_reducible first | exact HB.out | apply below_alloc | apply pw_below_drewN | apply below_drew1 | refine below_set ?_ GE158.out | refine below_set ?_ GE159.out | refine below_set ?_ GE164.out | refine below_set ?_ GE170.out) | exact HB.out)) hb); clear HO_6; clear HO_59; clear BK158; clear BK159; clear BK164; clear BK170; clear HB; have HO_6:=n0_; have HO_59:=n1_; have BK158:=n2_; have BK159:=n3_; have BK164:=n4_; have BK170:=n5_; have HB:=n6_; clear n0_ n1_ n2_ n3_ n4_ n5_ n6_; (try clear hb); (try clear hb2); (try clear hk); (try clear hi)))
         go_roundg k2
         case measure => have:=HJ4.out; have:=HK2.out; omega
         case rel => exact ⟨(x6_2),(wrap64 (x61_2 + 1)),(by first | rfl | (simp; done) | (simp [*]; done)),H',⟨by have:=HJ4.out; have:=HK2.out; omega⟩,⟨by (with_reducible repeat (first | apply Kd.R_alloc | apply Kd.R_drewN | apply Kd.R_drew)); exact Kd.R_mono HO_6.out (fun _ hk => ⟨hk.1.1,⟨hk.1.2.1,⟨hk.1.2.2.1,hk.1.2.2.2⟩⟩⟩)⟩,⟨by (with_reducible repeat (first | apply Kd.R_alloc | apply Kd.R_drewN | apply Kd.R_drew)); exact Kd.R_mono HO_59.out (fun _ hk => ⟨hk.1.1,⟨hk.1.2.1,⟨hk.1.2.2.1,hk.1.2.2.2⟩⟩⟩)⟩,⟨by (with_reducible repeat (first | refine blk_drewN ?_ _ | refine blk_drew ?_ | refine blk_alloc ?_ _)); exact BK158.out⟩,⟨by (with_reducible repeat (first | refine blk_drewN ?_ _ | refine blk_drew ?_ | refine blk_alloc ?_ _)); exact BK159.out⟩,⟨by (with_reducible repeat (first | refine blk_drewN ?_ _ | refine blk_drew ?_ | refine blk_alloc ?_ _)); exact BK164.out⟩,⟨by repeat (first | (with_reducible first | exact HB.out | apply below_alloc | apply pw_below_drewN | apply below_drew1 | refine below_set ?_ GE158.out | refine below_set ?_ GE159.out | refine below_set ?_ GE164.out | refine below_set ?_ GE170.out) | exact HB.out)⟩⟩
        ·replace c35:=Bool.eq_false_iff.mpr c35
         subst c35
         have H1:(if x6_2.length < 4398046511104 then (rect_Cut.l0 k2 (x6_2 ++ [(⟨(rd_T37 y166 x61_2).f0,(rd_T37 y166 x61_2).f1,(rd_T37 y166 x61_2).f2,(rd_T37 y166 x61_2).f3⟩:S37)]) y166 (y166.length:Int) (wrap64 (x61_2 + 1))) else (none)) = some r:=by rw [if_neg (show ¬ (false = true) by decide)] at H; exact H
         clear H
         have H:=H1
         clear H1
         by_cases c42:x6_2.length < 4398046511104
         ·rw [if_pos c42] at H
          have LMc42:=Aside0.mk c42
          clear c42
          obtain ⟨y172,hy172⟩:∃ y_:List (S37),y_ = (x6_2 ++ [(⟨(rd_T37 y166 x61_2).f0,(rd_T37 y166 x61_2).f1,(rd_T37 y166 x61_2).f2,(rd_T37 y166 x61_2).f3⟩:S37)]):=⟨_,rfl⟩
          replace H:(rect_Cut.l0 k2 y172 y166 (y166.length:Int) (wrap64 (x61_2 + 1))) = some r:=by first | (rw [hy172]; with_reducible exact H) | (have H2_:=(Option.bind_some _ _).symm.trans H; rw [hy172]; with_reducible exact H2_) | (have H2_:=(Option.bind_some _ _).symm.trans H; with_reducible exact H2_) | with_reducible exact H | (rw [hy172]; exact H) | exact H
          have Ny172:=Aside0.mk hy172
          clear hy172
          have H':=Aside0.mk H
          clear H
          have p169:0 ≤ (x61_2:Int):=of_decide_eq_true (by first | (with_reducible assumption) | assumption)
          have q169:x61_2 < (y166.length:Int):=of_decide_eq_true (by first | (with_reducible assumption) | assumption)
          obtain ⟨ad169,e169,hx169_0,hx169_1,hx169_2,hx169_3⟩:=at_T37 (Kd.R_reads' HO_59.out).2.2 x61_2 p169 q169
          cases e169
          replace p169:=eq_true p169
          replace q169:=eq_true q169
          go_wp2_with (first | ((with_reducible refine gate_dst (N:=8) rfl ?_); refine box_event ?hg (N:=8) ?hd (cs:=#[.int .i64 0,.int .i64 0,.int .i64 0,.int .i64 0]) (t:=37) ?hr ?_; (case hd => rfl); (case hg => rfl); (case hr => first | (go_simp; done) | (go_simp; rfl)); intro gb170 hg w43 hbox hb; have n0_:=Aside0.mk (Kd.R_below (Kd.R_elderB (by (with_reducible repeat (first | apply Kd.R_alloc | apply Kd.R_drewN | apply Kd.R_drew)); exact HO_6.out) gb170 (Nat.le_of_eq hg.symm)) hb); have n1_:=Aside0.mk (Kd.R_below (Kd.R_elderB (by (with_reducible repeat (first | apply Kd.R_alloc | apply Kd.R_drewN | apply Kd.R_drew)); exact HO_59.out) gb170 (Nat.le_of_eq hg.symm)) hb); have n2_:=Aside0.mk (blk_below (g:=gb158) (o:=.cells #[.int .i64 a0_0,.int .i64 a0_1,.int .i64 a0_2,.int .i64 a0_3] 37 (0,0)) (by (with_reducible repeat (first | refine blk_drewN ?_ _ | refine blk_drew ?_ | refine blk_alloc ?_ _)); exact BK158.out) hb); have n3_:=Aside0.mk (blk_below (g:=gb159) (o:=.cells #[.int .i64 a1_0,.int .i64 a1_1,.int .i64 a1_2,.int .i64 a1_3] 37 (0,0)) (by (with_reducible repeat (first | refine blk_drewN ?_ _ | refine blk_drew ?_ | refine blk_alloc ?_ _)); exact BK159.out) hb); have n4_:=Aside0.mk (blk_below (g:=gb164) (o:=.cells #[.int .i64 x165000_4,.int .i64 x165001_4,.int .i64 x165002_4,.int .i64 x165003_4] 37 (0,0)) (by (with_reducible repeat (first | refine blk_drewN ?_ _ | refine blk_drew ?_ | refine blk_alloc ?_ _)); exact BK164.out) hb); have n5_:=Aside0.mk (below_step (by repeat (first | (with_reducible first | exact HB.out | apply below_alloc | apply pw_below_drewN | apply below_drew1 | refine below_set ?_ GE158.out | refine below_set ?_ GE159.out | refine below_set ?_ GE164.out) | exact HB.out)) hb); have n6_:=Aside0.mk (hbox); have n7_:=Aside0.mk ((by rw [hg]; exact (below_size (by repeat (first | (with_reducible first | exact HB.out | apply below_alloc | apply pw_below_drewN | apply below_drew1 | refine below_set ?_ GE158.out | refine below_set ?_ GE159.out | refine below_set ?_ GE164.out) | exact HB.out))):w.heap.size ≤ gb170)); have n8_:=Aside0.mk ((by rw [hg]; exact (below_size (by repeat (first | (with_reducible first | exact HB.out | apply below_alloc | apply pw_below_drewN | apply below_drew1 | refine below_set ?_ GE158.out | refine below_set ?_ GE159.out | refine below_set ?_ GE164.out) | exact HB.out))):w.heap.size ≤ gb170)); have n9_:=Aside0.mk ((by rw [hg]; exact Nat.ne_of_lt (blk_lt (g:=gb158) (o:=.cells #[.int .i64 a0_0,.int .i64 a0_1,.int .i64 a0_2,.int .i64 a0_3] 37 (0,0)) (by (with_reducible repeat (first | refine blk_drewN ?_ _ | refine blk_drew ?_ | refine blk_alloc ?_ _)); exact BK158.out)):gb158 ≠ gb170)); have n10_:=Aside0.mk ((by rw [hg]; exact Nat.ne_of_gt (blk_lt (g:=gb158) (o:=.cells #[.int .i64 a0_0,.int .i64 a0_1,.int .i64 a0_2,.int .i64 a0_3] 37 (0,0)) (by (with_reducible repeat (first | refine blk_drewN ?_ _ | refine blk_drew ?_ | refine blk_alloc ?_ _)); exact BK158.out)):gb170 ≠ gb158)); have n11_:=Aside0.mk ((by rw [hg]; exact Nat.ne_of_lt (blk_lt (g:=gb159) (o:=.cells #[.int .i64 a1_0,.int .i64 a1_1,.int .i64 a1_2,.int .i64 a1_3] 37 (0,0)) (by (with_reducible repeat (first | refine blk_drewN ?_ _ | refine blk_drew ?_ | refine blk_alloc ?_ _)); exact BK159.out)):gb159 ≠ gb170)); have n12_:=Aside0.mk ((by rw [hg]; exact Nat.ne_of_gt (blk_lt (g:=gb159) (o:=.cells #[.int .i64 a1_0,.int .i64 a1_1,.int .i64 a1_2,.int .i64 a1_3] 37 (0,0)) (by (with_reducible repeat (first | refine blk_drewN ?_ _ | refine blk_drew ?_ | refine blk_alloc ?_ _)); exact BK159.out)):gb170 ≠ gb159)); have n13_:=Aside0.mk ((by rw [hg]; exact Nat.ne_of_lt (blk_lt (g:=gb164) (o:=.cells #[.int .i64 x165000_4,.int .i64 x165001_4,.int .i64 x165002_4,.int .i64 x165003_4] 37 (0,0)) (by (with_reducible repeat (first | refine blk_drewN ?_ _ | refine blk_drew ?_ | refine blk_alloc ?_ _)); exact BK164.out)):gb164 ≠ gb170)); have n14_:=Aside0.mk ((by rw [hg]; exact Nat.ne_of_gt (blk_lt (g:=gb164) (o:=.cells #[.int .i64 x165000_4,.int .i64 x165001_4,.int .i64 x165002_4,.int .i64 x165003_4] 37 (0,0)) (by (with_reducible repeat (first | refine blk_drewN ?_ _ | refine blk_drew ?_ | refine blk_alloc ?_ _)); exact BK164.out)):gb170 ≠ gb164)); clear HO_6; clear HO_59; clear BK158; clear BK159; clear BK164; clear HB; have HO_6:=n0_; have HO_59:=n1_; have BK158:=n2_; have BK159:=n3_; have BK164:=n4_; have HB:=n5_; have BK170:=n6_; have GW170:=n7_; have GE170:=n8_; have NB158_170:=n9_; have NB170_158:=n10_; have NB159_170:=n11_; have NB170_159:=n12_; have NB164_170:=n13_; have NB170_164:=n14_; clear n0_ n1_ n2_ n3_ n4_ n5_ n6_ n7_ n8_ n9_ n10_ n11_ n12_ n13_ n14_; clear hb hbox hg; have hnb44:=NB170_158.out; have hnc44:=NB158_170.out; have hnb45:=NB170_159.out; have hnc45:=NB159_170.out; have hnb46:=NB170_164.out; have hnc46:=NB164_170.out; have hcz47_0:w43.cell? ⟨gb170,0,none⟩ = some (.int .i64 0):=(blk_cell BK170.out 0).trans rfl; have hcz47_1:w43.cell? ⟨gb170,1,none⟩ = some (.int .i64 0):=(blk_cell BK170.out 1).trans rfl; have hcz47_2:w43.cell? ⟨gb170,2,none⟩ = some (.int .i64 0):=(blk_cell BK170.out 2).trans rfl; have hcz47_3:w43.cell? ⟨gb170,3,none⟩ = some (.int .i64 0):=(blk_cell BK170.out 3).trans rfl; have hfz47_0:=blk_frozen BK170.out 0; have hfz47_1:=blk_frozen BK170.out 1; have hfz47_2:=blk_frozen BK170.out 2; have hfz47_3:=blk_frozen BK170.out 3) | ((with_reducible refine gate_callee (f:=55) rfl ?_); refine goesL_ (some 66) rfl rfl Try.func55 (by kernel_rfl) rfl #[.agg #[.int .i64 ((rd_T37 y166 x61_2).f0),.int .i64 ((rd_T37 y166 x61_2).f1),.int .i64 ((rd_T37 y166 x61_2).f2),.int .i64 ((rd_T37 y166 x61_2).f3)]] rfl (by (try simp only [List.map_toArray,List.map_cons,List.map_nil]); first | done | rfl | (simp only [List.length_drop,List.length_take]; rfl)) ?_; (with_reducible refine (rect_Empty.calls ((rd_T37 y166 x61_2).f0) ((rd_T37 y166 x61_2).f1) ((rd_T37 y166 x61_2).f2) ((rd_T37 y166 x61_2).f3) false _ A34.out).mono ?_); rintro e w48 ⟨rfl,hb⟩; refine ⟨_,rfl,?_⟩; have n0_:=Aside0.mk (Kd.R_below (by (with_reducible repeat (first | apply Kd.R_alloc | apply Kd.R_drewN | apply Kd.R_drew)); exact (Kd.R_mono (Kd.R_far (p:=⟨gb170,3,none⟩) (Kd.R_far (p:=⟨gb170,2,none⟩) (Kd.R_far (p:=⟨gb170,1,none⟩) (Kd.R_far (p:=⟨gb170,0,none⟩) (Kd.R_mono HO_6.out (fun k_ hk => (⟨hk,hk.2⟩:_ ∧ k_ ≠ gb170))) (fun _ hk => hk.2) (.int .i64 ((rd_T37 y166 x61_2).f0))) (fun _ hk => hk.2) (.int .i64 ((rd_T37 y166 x61_2).f1))) (fun _ hk => hk.2) (.int .i64 ((rd_T37 y166 x61_2).f2))) (fun _ hk => hk.2) (.int .i64 ((rd_T37 y166 x61_2).f3))) (fun _ h_ => h_.1))) hb); have n1_:=Aside0.mk (Kd.R_below (by (with_reducible repeat (first | apply Kd.R_alloc | apply Kd.R_drewN | apply Kd.R_drew)); exact (Kd.R_mono (Kd.R_far (p:=⟨gb170,3,none⟩) (Kd.R_far (p:=⟨gb170,2,none⟩) (Kd.R_far (p:=⟨gb170,1,none⟩) (Kd.R_far (p:=⟨gb170,0,none⟩) (Kd.R_mono HO_59.out (fun k_ hk => (⟨hk,hk.2⟩:_ ∧ k_ ≠ gb170))) (fun _ hk => hk.2) (.int .i64 ((rd_T37 y166 x61_2).f0))) (fun _ hk => hk.2) (.int .i64 ((rd_T37 y166 x61_2).f1))) (fun _ hk => hk.2) (.int .i64 ((rd_T37 y166 x61_2).f2))) (fun _ hk => hk.2) (.int .i64 ((rd_T37 y166 x61_2).f3))) (fun _ h_ => h_.1))) hb); have n2_:=Aside0.mk (blk_below (g:=gb158) (o:=.cells #[.int .i64 a0_0,.int .i64 a0_1,.int .i64 a0_2,.int .i64 a0_3] 37 (0,0)) (by (with_reducible repeat (first | refine blk_drewN ?_ _ | refine blk_drew ?_ | refine blk_alloc ?_ _)); refine blk_far ?_ NB158_170.out _; (with_reducible repeat (first | refine blk_drewN ?_ _ | refine blk_drew ?_ | refine blk_alloc ?_ _)); refine blk_far ?_ NB158_170.out _; (with_reducible repeat (first | refine blk_drewN ?_ _ | refine blk_drew ?_ | refine blk_alloc ?_ _)); refine blk_far ?_ NB158_170.out _; (with_reducible repeat (first | refine blk_drewN ?_ _ | refine blk_drew ?_ | refine blk_alloc ?_ _)); refine blk_far ?_ NB158_170.out _; (with_reducible repeat (first | refine blk_drewN ?_ _ | refine blk_drew ?_ | refine blk_alloc ?_ _)); exact BK158.out) hb); have n3_:=Aside0.mk (blk_below (g:=gb159) (o:=.cells #[.int .i64 a1_0,.int .i64 a1_1,.int .i64 a1_2,.int .i64 a1_3] 37 (0,0)) (by (with_reducible repeat (first | refine blk_drewN ?_ _ | refine blk_drew ?_ | refine blk_alloc ?_ _)); refine blk_far ?_ NB159_170.out _; (with_reducible repeat (first | refine blk_drewN ?_ _ | refine blk_drew ?_ | refine blk_alloc ?_ _)); refine blk_far ?_ NB159_170.out _; (with_reducible repeat (first | refine blk_drewN ?_ _ | refine blk_drew ?_ | refine blk_alloc ?_ _)); refine blk_far ?_ NB159_170.out _; (with_reducible repeat (first | refine blk_drewN ?_ _ | refine blk_drew ?_ | refine blk_alloc ?_ _)); refine blk_far ?_ NB159_170.out _; (with_reducible repeat (first | refine blk_drewN ?_ _ | refine blk_drew ?_ | refine blk_alloc ?_ _)); exact BK159.out) hb); have n4_:=Aside0.mk (blk_below (g:=gb164) (o:=.cells #[.int .i64 x165000_4,.int .i64 x165001_4,.int .i64 x165002_4,.int .i64 x165003_4] 37 (0,0)) (by (with_reducible repeat (first | refine blk_drewN ?_ _ | refine blk_drew ?_ | refine blk_alloc ?_ _)); refine blk_far ?_ NB164_170.out _; (with_reducible repeat (first | refine blk_drewN ?_ _ | refine blk_drew ?_ | refine blk_alloc ?_ _)); refine blk_far ?_ NB164_170.out _; (with_reducible repeat (first | refine blk_drewN ?_ _ | refine blk_drew ?_ | refine blk_alloc ?_ _)); refine blk_far ?_ NB164_170.out _; (with_reducible repeat (first | refine blk_drewN ?_ _ | refine blk_drew ?_ | refine blk_alloc ?_ _)); refine blk_far ?_ NB164_170.out _; (with_reducible repeat (first | refine blk_drewN ?_ _ | refine blk_drew ?_ | refine blk_alloc ?_ _)); exact BK164.out) hb); have n5_:=Aside0.mk (blk_below (g:=gb170) (o:=.cells #[.int .i64 ((rd_T37 y166 x61_2).f0),.int .i64 ((rd_T37 y166 x61_2).f1),.int .i64 ((rd_T37 y166 x61_2).f2),.int .i64 ((rd_T37 y166 x61_2).f3)] 37 (0,0)) (by (with_reducible repeat (first | refine blk_drewN ?_ _ | refine blk_drew ?_ | refine blk_alloc ?_ _)); refine blk_put (cs:=#[.int .i64 ((rd_T37 y166 x61_2).f0),.int .i64 ((rd_T37 y166 x61_2).f1),.int .i64 ((rd_T37 y166 x61_2).f2),.int .i64 0]) ?_ 3 _ rfl; (with_reducible repeat (first | refine blk_drewN ?_ _ | refine blk_drew ?_ | refine blk_alloc ?_ _)); refine blk_put (cs:=#[.int .i64 ((rd_T37 y166 x61_2).f0),.int .i64 ((rd_T37 y166 x61_2).f1),.int .i64 0,.int .i64 0]) ?_ 2 _ rfl; (with_reducible repeat (first | refine blk_drewN ?_ _ | refine blk_drew ?_ | refine blk_alloc ?_ _)); refine blk_put (cs:=#[.int .i64 ((rd_T37 y166 x61_2).f0),.int .i64 0,.int .i64 0,.int .i64 0]) ?_ 1 _ rfl; (with_reducible repeat (first | refine blk_drewN ?_ _ | refine blk_drew ?_ | refine blk_alloc ?_ _)); refine blk_put (cs:=#[.int .i64 0,.int .i64 0,.int .i64 0,.int .i64 0]) ?_ 0 _ rfl; (with_reducible repeat (first | refine blk_drewN ?_ _ | refine blk_drew ?_ | refine blk_alloc ?_ _)); exact BK170.out) hb); have n6_:=Aside0.mk (below_step (by repeat (first | (with_reducible first | exact HB.out | apply below_alloc | apply pw_below_drewN | apply below_drew1 | refine below_set ?_ GE158.out | refine below_set ?_ GE159.out | refine below_set ?_ GE164.out | refine below_set ?_ GE170.out) | exact HB.out)) hb); clear HO_6; clear HO_59; clear BK158; clear BK159; clear BK164; clear BK170; clear HB; have HO_6:=n0_; have HO_59:=n1_; have BK158:=n2_; have BK159:=n3_; have BK164:=n4_; have BK170:=n5_; have HB:=n6_; clear n0_ n1_ n2_ n3_ n4_ n5_ n6_; (try clear hb); (try clear hb2); (try clear hk); (try clear hi); have hcz49_0:w48.cell? ⟨gb170,0,none⟩ = some (.int .i64 ((rd_T37 y166 x61_2).f0)):=(blk_cell BK170.out 0).trans rfl; have hcz49_1:w48.cell? ⟨gb170,1,none⟩ = some (.int .i64 ((rd_T37 y166 x61_2).f1)):=(blk_cell BK170.out 1).trans rfl; have hcz49_2:w48.cell? ⟨gb170,2,none⟩ = some (.int .i64 ((rd_T37 y166 x61_2).f2)):=(blk_cell BK170.out 2).trans rfl; have hcz49_3:w48.cell? ⟨gb170,3,none⟩ = some (.int .i64 ((rd_T37 y166 x61_2).f3)):=(blk_cell BK170.out 3).trans rfl; have hfz49_0:=blk_frozen BK170.out 0; have hfz49_1:=blk_frozen BK170.out 1; have hfz49_2:=blk_frozen BK170.out 2; have hfz49_3:=blk_frozen BK170.out 3) | ((with_reducible refine gate_builtin (b:=.append) (xs:=#[.tmp 68,.tmp 70]) rfl ?_); at_builtin; refine Kd.R_append k37 (w0:=w) w.heap.size rfl (.tmp 68) (.tmp 70) 29 37 (.agg #[(.int .i64 0),(.int .i64 0),(.int .i64 0),(.int .i64 0)]) 32 rfl Try.underlying29 info37 rfl (by decide) (by omega) u6 x6_2 (⟨(rd_T37 y166 x61_2).f0,(rd_T37 y166 x61_2).f1,(rd_T37 y166 x61_2).f2,(rd_T37 y166 x61_2).f3⟩:S37) [.int .i64 ((rd_T37 y166 x61_2).f0),.int .i64 ((rd_T37 y166 x61_2).f1),.int .i64 ((rd_T37 y166 x61_2).f2),.int .i64 ((rd_T37 y166 x61_2).f3)] (fun k_ => some k_ ≠ (.slice (some ad169) y166.length co30:Value).ownBlock ∧ k_ ≠ gb158 ∧ k_ ≠ gb159 ∧ k_ ≠ gb164 ∧ k_ ≠ gb170) (fun _ => False) rfl rfl ?aP (fun _ hk => hk.elim) ?aF ?aO ?aB ?aS ?aL ?_; (case aP => exact k37_mkM _ _ _ (⟨(rd_T37 y166 x61_2).f0,(rd_T37 y166 x61_2).f1,(rd_T37 y166 x61_2).f2,(rd_T37 y166 x61_2).f3⟩:S37)); (case aB => exact (by repeat (first | (with_reducible first | exact HB.out | apply below_alloc | apply pw_below_drewN | apply below_drew1 | refine below_set ?_ GE158.out | refine below_set ?_ GE159.out | refine below_set ?_ GE164.out | refine below_set ?_ GE170.out) | exact HB.out))); (case aF => exact (fun k_ hk => ⟨Kd.fresh' (Kd.R_lt (by (with_reducible repeat (first | apply Kd.R_alloc | apply Kd.R_drewN | apply Kd.R_drew)); exact HO_59.out)) k_ hk,Kd.freshB (g:=gb158) (o:=.cells #[.int .i64 a0_0,.int .i64 a0_1,.int .i64 a0_2,.int .i64 a0_3] 37 (0,0)) (by (with_reducible repeat (first | refine blk_drewN ?_ _ | refine blk_drew ?_ | refine blk_alloc ?_ _)); exact BK158.out) k_ hk,Kd.freshB (g:=gb159) (o:=.cells #[.int .i64 a1_0,.int .i64 a1_1,.int .i64 a1_2,.int .i64 a1_3] 37 (0,0)) (by (with_reducible repeat (first | refine blk_drewN ?_ _ | refine blk_drew ?_ | refine blk_alloc ?_ _)); exact BK159.out) k_ hk,Kd.freshB (g:=gb164) (o:=.cells #[.int .i64 x165000_4,.int .i64 x165001_4,.int .i64 x165002_4,.int .i64 x165003_4] 37 (0,0)) (by (with_reducible repeat (first | refine blk_drewN ?_ _ | refine blk_drew ?_ | refine blk_alloc ?_ _)); exact BK164.out) k_ hk,Kd.freshB (g:=gb170) (o:=.cells #[.int .i64 ((rd_T37 y166 x61_2).f0),.int .i64 ((rd_T37 y166 x61_2).f1),.int .i64 ((rd_T37 y166 x61_2).f2),.int .i64 ((rd_T37 y166 x61_2).f3)] 37 (0,0)) (by (with_reducible repeat (first | refine blk_drewN ?_ _ | refine blk_drew ?_ | refine blk_alloc ?_ _)); exact BK170.out) k_ hk⟩)); (case aO => exact (by (with_reducible repeat (first | apply Kd.R_alloc | apply Kd.R_drewN | apply Kd.R_drew)); exact Kd.R_mono HO_6.out (fun _ hk => ⟨hk.1.1,⟨hk.1.2.1,⟨hk.1.2.2.1,⟨hk.1.2.2.2,hk.2⟩⟩⟩⟩))); (case aS => exact (below_size (by repeat (first | (with_reducible first | exact HB.out | apply below_alloc | apply pw_below_drewN | apply below_drew1 | refine below_set ?_ GE158.out | refine below_set ?_ GE159.out | refine below_set ?_ GE164.out | refine below_set ?_ GE170.out) | exact HB.out)))); (case aL => have:=LMc42.out; omega); intro v173 w50 ho hb hg hat; rw [← Ny172.out] at ho; have n0_:=Aside0.mk (Kd.R_after (ok:=(fun k_ => k_ ≠ gb158 ∧ k_ ≠ gb159 ∧ k_ ≠ gb164 ∧ k_ ≠ gb170)) (by (with_reducible repeat (first | apply Kd.R_alloc | apply Kd.R_drewN | apply Kd.R_drew)); exact Kd.R_mono HO_59.out (fun _ hk => ⟨⟨hk.1.2.1,⟨hk.1.2.2.1,⟨hk.1.2.2.2,hk.2⟩⟩⟩,hk.1.1⟩)) hg hat); have n1_:=Aside0.mk (blk_grown (g:=gb158) (o:=.cells #[.int .i64 a0_0,.int .i64 a0_1,.int .i64 a0_2,.int .i64 a0_3] 37 (0,0)) (by (with_reducible repeat (first | refine blk_drewN ?_ _ | refine blk_drew ?_ | refine blk_alloc ?_ _)); exact BK158.out) hg (Kd.R_away HO_6.out (fun _ hk => hk.1.2.1))); have n2_:=Aside0.mk (blk_grown (g:=gb159) (o:=.cells #[.int .i64 a1_0,.int .i64 a1_1,.int .i64 a1_2,.int .i64 a1_3] 37 (0,0)) (by (with_reducible repeat (first | refine blk_drewN ?_ _ | refine blk_drew ?_ | refine blk_alloc ?_ _)); exact BK159.out) hg (Kd.R_away HO_6.out (fun _ hk => hk.1.2.2.1))); have n3_:=Aside0.mk (blk_grown (g:=gb164) (o:=.cells #[.int .i64 x165000_4,.int .i64 x165001_4,.int .i64 x165002_4,.int .i64 x165003_4] 37 (0,0)) (by (with_reducible repeat (first | refine blk_drewN ?_ _ | refine blk_drew ?_ | refine blk_alloc ?_ _)); exact BK164.out) hg (Kd.R_away HO_6.out (fun _ hk => hk.1.2.2.2))); have n4_:=Aside0.mk (blk_grown (g:=gb170) (o:=.cells #[.int .i64 ((rd_T37 y166 x61_2).f0),.int .i64 ((rd_T37 y166 x61_2).f1),.int .i64 ((rd_T37 y166 x61_2).f2),.int .i64 ((rd_T37 y166 x61_2).f3)] 37 (0,0)) (by (with_reducible repeat (first | refine blk_drewN ?_ _ | refine blk_drew ?_ | refine blk_alloc ?_ _)); exact BK170.out) hg (Kd.R_away HO_6.out (fun _ hk => hk.2))); have n5_:=Aside0.mk (hb); have n6_:=Aside0.mk (ho); clear HO_59; clear BK158; clear BK159; clear BK164; clear BK170; clear HB; clear HO_6; have HO_59:=n0_; have BK158:=n1_; have BK159:=n2_; have BK164:=n3_; have BK170:=n4_; have HB:=n5_; have HO174:=n6_; clear n0_ n1_ n2_ n3_ n4_ n5_ n6_; clear ho hb hg hat))
          go_roundg k2
          case measure => have:=HJ4.out; have:=HK2.out; omega
          case rel => exact ⟨(y172),(wrap64 (x61_2 + 1)),(by first | rfl | (simp; done) | (simp [*]; done)),H',⟨by have:=HJ4.out; have:=HK2.out; omega⟩,⟨by (with_reducible repeat (first | apply Kd.R_alloc | apply Kd.R_drewN | apply Kd.R_drew)); exact Kd.R_mono HO174.out (fun _ hk => ⟨hk.1,⟨hk.2.1,⟨hk.2.2.1,hk.2.2.2.1⟩⟩⟩)⟩,⟨by (with_reducible repeat (first | apply Kd.R_alloc | apply Kd.R_drewN | apply Kd.R_drew)); exact Kd.R_mono HO_59.out (fun _ hk => ⟨hk.2,⟨hk.1.1,⟨hk.1.2.1,hk.1.2.2.1⟩⟩⟩)⟩,⟨by (with_reducible repeat (first | refine blk_drewN ?_ _ | refine blk_drew ?_ | refine blk_alloc ?_ _)); exact BK158.out⟩,⟨by (with_reducible repeat (first | refine blk_drewN ?_ _ | refine blk_drew ?_ | refine blk_alloc ?_ _)); exact BK159.out⟩,⟨by (with_reducible repeat (first | refine blk_drewN ?_ _ | refine blk_drew ?_ | refine blk_alloc ?_ _)); exact BK164.out⟩,⟨by repeat (first | (with_reducible first | exact HB.out | apply below_alloc | apply pw_below_drewN | apply below_drew1 | refine below_set ?_ GE158.out | refine below_set ?_ GE159.out | refine below_set ?_ GE164.out | refine below_set ?_ GE170.out) | exact HB.out)⟩⟩
         ·rw [if_neg c42] at H
          exact absurd H (by simp)
       ·rw [if_neg c33] at H
        exact absurd H (by simp)
      ·rw [if_neg c32] at H
       exact absurd H (by simp)
     ·rw [if_neg c31] at H
      have c31b0:decide (x61_2 < (y166.length:Int)) = false:=decide_eq_false c31
      clear c31
      obtain rfl:=Option.some.inj H
      go_wp2
      go_ret
      exact ⟨_,by first | rfl | (simp [errW_none,errW_some] <;> rfl) | (simp [*,errW_none,errW_some] <;> rfl),by (with_reducible repeat (first | apply Kd.R_alloc | apply Kd.R_drewN | apply Kd.R_drew)); exact Kd.R_mono HO_6.out (fun _ hk => trivial),by repeat (first | (with_reducible first | exact HB.out | apply below_alloc | apply pw_below_drewN | apply below_drew1 | refine below_set ?_ GE158.out | refine below_set ?_ GE159.out | refine below_set ?_ GE164.out) | exact HB.out)⟩
mutual
def cover_Rest.j0:Nat → List (S37) → List (S37) → Option ((List (S37)))
 | 0,_,_ => none
 | k + 1,x1,x5 => cover_Rest.l0 k x5 x1 (x1.length:Int) 0
def cover_Rest.l0:Nat → List (S37) → List (S37) → Int → Int → Option ((List (S37)))
 | 0,_,_,_,_ => none
 | k + 1,x5,x18,x19,x20 => if x20 < x19 then (if 0 ≤ x20 then (if x20 < (x18.length:Int) then (cover_Rest.l1 k ([]:List (S37)) x18 x19 x20 x5 (x5.length:Int) 0 ((rd_T37 x18 x20).f0) ((rd_T37 x18 x20).f1) ((rd_T37 x18 x20).f2) ((rd_T37 x18 x20).f3)) else (none)) else (none)) else (some x5)
def cover_Rest.l1:Nat → List (S37) → List (S37) → Int → Int → List (S37) → Int → Int → Int → Int → Int → Int → Option ((List (S37)))
 | 0,_,_,_,_,_,_,_,_,_,_,_ => none
 | k + 1,x8,x18,x19,x20,x24,x25,x26,x182000,x182001,x182002,x182003 => if x26 < x25 then (if 0 ≤ x26 then (if x26 < (x24.length:Int) then ((rect_Cut.f k ((rd_T37 x24 x26).f0) ((rd_T37 x24 x26).f1) ((rd_T37 x24 x26).f2) ((rd_T37 x24 x26).f3) x182000 x182001 x182002 x182003).bind fun t184 => (if x8.length + t184.length < 4398046511104 then (cover_Rest.l1 k (x8 ++ t184) x18 x19 x20 x24 x25 (wrap64 (x26 + 1)) x182000 x182001 x182002 x182003) else (none))) else (none)) else (none)) else (cover_Rest.l0 k x8 x18 x19 (wrap64 (x20 + 1)))
end
def cover_Rest.f (k:Nat) (a0_0:Int) (a0_1:Int) (a0_2:Int) (a0_3:Int) (l1:List (S37)):Option ((List (S37))):=(rect_Empty.f a0_0 a0_1 a0_2 a0_3).bind fun t176 => (if t176 = true then (cover_Rest.j0 k l1 ([]:List (S37))) else (if ([]:List (S37)).length < 4398046511104 then (cover_Rest.j0 k l1 (([]:List (S37)) ++ [(⟨a0_0,a0_1,a0_2,a0_3⟩:S37)])) else (none)))
set_option maxHeartbeats 8000000 in
set_option maxRecDepth 100000 in
theorem cover_Rest.calls (k:Nat) (a0_0:Int) (a0_1:Int) (a0_2:Int) (a0_3:Int) (A1:Option Addr) (c1:Nat) (l1:List (S37)) (r:List (S37)) (w:World) (hr1:Kd.C k37 w A1 l1.length l1) (hc1:l1.length ≤ c1) (h:cover_Rest.f k a0_0 a0_1 a0_2 a0_3 l1 = some r) :
  Calls Try.prog 58 #[.agg #[.int .i64 a0_0,.int .i64 a0_1,.int .i64 a0_2,.int .i64 a0_3],.slice A1 l1.length c1] w fun e w' => ∃ v0_:Value,e = .returned (v0_) ∧ Kd.R k37 37 w' w.heap.size (fun _ => True) v0_ r ∧ Below w.heap.size w w':=by
 have hu37:=Try.underlying37
 have HR1:=Aside0.mk hr1
 have HC1:=Aside0.mk hc1
 clear hr1 hc1
 have HB:=Aside0.mk (Below.refl w.heap.size w)
 have H:((rect_Empty.f a0_0 a0_1 a0_2 a0_3).bind fun t176 => (if t176 = true then (cover_Rest.j0 k l1 ([]:List (S37))) else (if ([]:List (S37)).length < 4398046511104 then (cover_Rest.j0 k l1 (([]:List (S37)) ++ [(⟨a0_0,a0_1,a0_2,a0_3⟩:S37)])) else (none)))) = some r:=h
 clear h
 replace H:=Option.bind_eq_some_iff.mp H
 obtain ⟨t176,A30,H⟩:=H
 replace H:(if t176 = true then (cover_Rest.j0 k l1 ([]:List (S37))) else (if ([]:List (S37)).length < 4398046511104 then (cover_Rest.j0 k l1 (([]:List (S37)) ++ [(⟨a0_0,a0_1,a0_2,a0_3⟩:S37)])) else (none))) = some r:=H
 have A3:=Aside0.mk A30
 clear A30
 have HC4:=Aside0.mk H
 clear H
 go_enter Try.func58,Try.ntmps58
 go_upto_if 13 with (first | ((with_reducible refine gate_dst (N:=2) rfl ?_); refine box_event ?hg (N:=2) ?hd (cs:=#[.int .i64 a0_0,.int .i64 a0_1,.int .i64 a0_2,.int .i64 a0_3]) (t:=37) ?hr ?_; (case hd => rfl); (case hg => rfl); (case hr => first | (go_simp; done) | (go_simp; rfl)); intro gb175 hg w5 hbox hb; have n0_:=Aside0.mk (below_step (by repeat (first | (with_reducible first | exact HB.out | apply below_alloc | apply pw_below_drewN | apply below_drew1) | exact HB.out)) hb); have n1_:=Aside0.mk (hbox); have n2_:=Aside0.mk ((by rw [hg]; exact (below_size (by repeat (first | (with_reducible first | exact HB.out | apply below_alloc | apply pw_below_drewN | apply below_drew1) | exact HB.out))):w.heap.size ≤ gb175)); have n3_:=Aside0.mk ((by rw [hg]; exact (below_size (by repeat (first | (with_reducible first | exact HB.out | apply below_alloc | apply pw_below_drewN | apply below_drew1) | exact HB.out))):w.heap.size ≤ gb175)); clear HB; have HB:=n0_; have BK175:=n1_; have GW175:=n2_; have GE175:=n3_; clear n0_ n1_ n2_ n3_; clear hb hbox hg; have hcz6_0:w5.cell? ⟨gb175,0,none⟩ = some (.int .i64 a0_0):=(blk_cell BK175.out 0).trans rfl; have hcz6_1:w5.cell? ⟨gb175,1,none⟩ = some (.int .i64 a0_1):=(blk_cell BK175.out 1).trans rfl; have hcz6_2:w5.cell? ⟨gb175,2,none⟩ = some (.int .i64 a0_2):=(blk_cell BK175.out 2).trans rfl; have hcz6_3:w5.cell? ⟨gb175,3,none⟩ = some (.int .i64 a0_3):=(blk_cell BK175.out 3).trans rfl; have hfz6_0:=blk_frozen BK175.out 0; have hfz6_1:=blk_frozen BK175.out 1; have hfz6_2:=blk_frozen BK175.out 2; have hfz6_3:=blk_frozen BK175.out 3) | ((with_reducible refine gate_callee (f:=55) rfl ?_); refine goesL_ (some 12) rfl rfl Try.func55 (by kernel_rfl) rfl #[.agg #[.int .i64 a0_0,.int .i64 a0_1,.int .i64 a0_2,.int .i64 a0_3]] rfl (by (try simp only [List.map_toArray,List.map_cons,List.map_nil]); first | done | rfl | (simp only [List.length_drop,List.length_take]; rfl)) ?_; (with_reducible refine (rect_Empty.calls a0_0 a0_1 a0_2 a0_3 t176 _ A3.out).mono ?_); rintro e w7 ⟨rfl,hb⟩; refine ⟨_,rfl,?_⟩; have n0_:=Aside0.mk (blk_below (g:=gb175) (o:=.cells #[.int .i64 a0_0,.int .i64 a0_1,.int .i64 a0_2,.int .i64 a0_3] 37 (0,0)) (by (with_reducible repeat (first | refine blk_drewN ?_ _ | refine blk_drew ?_ | refine blk_alloc ?_ _)); exact BK175.out) hb); have n1_:=Aside0.mk (below_step (by repeat (first | (with_reducible first | exact HB.out | apply below_alloc | apply pw_below_drewN | apply below_drew1 | refine below_set ?_ GE175.out) | exact HB.out)) hb); clear BK175; clear HB; have BK175:=n0_; have HB:=n1_; clear n0_ n1_; (try clear hb); (try clear hb2); (try clear hk); (try clear hi)))
 (try simp only [Act.put,List.setIfInBounds_toArray,List.set_cons_zero,List.set_cons_succ])
 go_cut [5] (fun v5 wc => ∃ (kq:Nat) (x5_3:List (S37)),Aside0 (cover_Rest.j0 kq l1 x5_3 = some r) ∧ Aside0 (kq ≤ k) ∧ Aside0 (Kd.R k37 37 wc w.heap.size (fun k_ => k_ ≠ gb175) v5 x5_3) ∧ Aside0 (wc.heap[gb175]? = some (.cells #[.int .i64 a0_0,.int .i64 a0_1,.int .i64 a0_2,.int .i64 a0_3] 37 (0,0))) ∧ Aside0 (Below w.heap.size w wc))
 case first =>
  have H:=HC4.out
  clear HC4
  by_cases c8:t176 = true
  ·subst c8
   have H1:(cover_Rest.j0 k l1 ([]:List (S37))) = some r:=by rw [if_pos rfl] at H; exact H
   clear H
   have H:=H1
   clear H1
   have H':=Aside0.mk H
   clear H
   go_wp2
   go_meet
   case rel => exact ⟨_,(([]:List (S37))),H',⟨by first | omega | exact Nat.le_refl _⟩,⟨by first | exact Kd.R_nil _ _ _ _ _ | exact Kd.N_nil _ _ _ _ _ | exact Kd.V_nil _ _ _ _ _ | exact Kd.Q_nil _ _ _ _ _ | exact Kd.S_nil _ _ _ _ _⟩,⟨by (with_reducible repeat (first | refine blk_drewN ?_ _ | refine blk_drew ?_ | refine blk_alloc ?_ _)); exact BK175.out⟩,⟨by repeat (first | (with_reducible first | exact HB.out | apply below_alloc | apply pw_below_drewN | apply below_drew1 | refine below_set ?_ GE175.out) | exact HB.out)⟩⟩
  ·replace c8:=Bool.eq_false_iff.mpr c8
   subst c8
   have H1:(if ([]:List (S37)).length < 4398046511104 then (cover_Rest.j0 k l1 (([]:List (S37)) ++ [(⟨a0_0,a0_1,a0_2,a0_3⟩:S37)])) else (none)) = some r:=by rw [if_neg (show ¬ (false = true) by decide)] at H; exact H
   clear H
   have H:=H1
   clear H1
   by_cases c9:([]:List (S37)).length < 4398046511104
   ·rw [if_pos c9] at H
    have LMc9:=Aside0.mk c9
    clear c9
    obtain ⟨y177,hy177⟩:∃ y_:List (S37),y_ = (([]:List (S37)) ++ [(⟨a0_0,a0_1,a0_2,a0_3⟩:S37)]):=⟨_,rfl⟩
    replace H:(cover_Rest.j0 k l1 y177) = some r:=by first | (rw [hy177]; with_reducible exact H) | (have H2_:=(Option.bind_some _ _).symm.trans H; rw [hy177]; with_reducible exact H2_) | (have H2_:=(Option.bind_some _ _).symm.trans H; with_reducible exact H2_) | with_reducible exact H | (rw [hy177]; exact H) | exact H
    have Ny177:=Aside0.mk hy177
    clear hy177
    have H':=Aside0.mk H
    clear H
    have hcz10_0:w7.cell? ⟨gb175,0,none⟩ = some (.int .i64 a0_0):=(blk_cell BK175.out 0).trans rfl
    have hcz10_1:w7.cell? ⟨gb175,1,none⟩ = some (.int .i64 a0_1):=(blk_cell BK175.out 1).trans rfl
    have hcz10_2:w7.cell? ⟨gb175,2,none⟩ = some (.int .i64 a0_2):=(blk_cell BK175.out 2).trans rfl
    have hcz10_3:w7.cell? ⟨gb175,3,none⟩ = some (.int .i64 a0_3):=(blk_cell BK175.out 3).trans rfl
    have hfz10_0:=blk_frozen BK175.out 0
    have hfz10_1:=blk_frozen BK175.out 1
    have hfz10_2:=blk_frozen BK175.out 2
    have hfz10_3:=blk_frozen BK175.out 3
    go_wp2_with (first | ((with_reducible refine gate_builtin (b:=.append) (xs:=#[.tmp 14,.tmp 16]) rfl ?_); at_builtin; refine Kd.R_append k37 (w0:=w) w.heap.size rfl (.tmp 14) (.tmp 16) 29 37 (.agg #[(.int .i64 0),(.int .i64 0),(.int .i64 0),(.int .i64 0)]) 32 rfl Try.underlying29 info37 rfl (by decide) (by omega) (.slice none 0 0) ([]:List (S37)) (⟨a0_0,a0_1,a0_2,a0_3⟩:S37) [.int .i64 a0_0,.int .i64 a0_1,.int .i64 a0_2,.int .i64 a0_3] (fun k_ => k_ ≠ gb175) (fun _ => False) rfl rfl ?aP (fun _ hk => hk.elim) ?aF ?aO ?aB ?aS ?aL ?_; (case aP => exact k37_mkM _ _ _ (⟨a0_0,a0_1,a0_2,a0_3⟩:S37)); (case aB => exact (by repeat (first | (with_reducible first | exact HB.out | apply below_alloc | apply pw_below_drewN | apply below_drew1 | refine below_set ?_ GE175.out) | exact HB.out))); (case aF => exact (fun k_ hk => Kd.freshB (g:=gb175) (o:=.cells #[.int .i64 a0_0,.int .i64 a0_1,.int .i64 a0_2,.int .i64 a0_3] 37 (0,0)) (by (with_reducible repeat (first | refine blk_drewN ?_ _ | refine blk_drew ?_ | refine blk_alloc ?_ _)); exact BK175.out) k_ hk)); (case aO => exact ((Kd.R_nil _ _ _ _ (fun k_ => k_ ≠ gb175)))); (case aS => exact (below_size (by repeat (first | (with_reducible first | exact HB.out | apply below_alloc | apply pw_below_drewN | apply below_drew1 | refine below_set ?_ GE175.out) | exact HB.out)))); (case aL => have:=LMc9.out; omega); intro v178 w11 ho hb hg hat; rw [← Ny177.out] at ho; have n0_:=Aside0.mk (blk_grown (g:=gb175) (o:=.cells #[.int .i64 a0_0,.int .i64 a0_1,.int .i64 a0_2,.int .i64 a0_3] 37 (0,0)) (by (with_reducible repeat (first | refine blk_drewN ?_ _ | refine blk_drew ?_ | refine blk_alloc ?_ _)); exact BK175.out) hg (by simp [Value.ownBlock])); have n1_:=Aside0.mk (hb); have n2_:=Aside0.mk (ho); clear BK175; clear HB; have BK175:=n0_; have HB:=n1_; have HO179:=n2_; clear n0_ n1_ n2_; clear ho hb hg hat))
    go_meet
    case rel => exact ⟨_,(y177),H',⟨by first | omega | exact Nat.le_refl _⟩,⟨by (with_reducible repeat (first | apply Kd.R_alloc | apply Kd.R_drewN | apply Kd.R_drew)); exact HO179.out⟩,⟨by (with_reducible repeat (first | refine blk_drewN ?_ _ | refine blk_drew ?_ | refine blk_alloc ?_ _)); exact BK175.out⟩,⟨by repeat (first | (with_reducible first | exact HB.out | apply below_alloc | apply pw_below_drewN | apply below_drew1 | refine below_set ?_ GE175.out) | exact HB.out)⟩⟩
   ·rw [if_neg c9] at H
    exact absurd H (by simp)
 case rest =>
  clear HC4
  try clear c1
  try clear p2
  try clear c5
  try clear c8
  try clear c9
  try clear hcz10_0
  try clear hcz10_1
  try clear hcz10_2
  try clear hcz10_3
  try clear hcz6_0
  try clear hcz6_1
  try clear hcz6_2
  try clear hcz6_3
  try clear hfz10_0
  try clear hfz10_1
  try clear hfz10_2
  try clear hfz10_3
  try clear hfz6_0
  try clear hfz6_1
  try clear hfz6_2
  try clear hfz6_3
  obtain ⟨kq,x5_3,HA,HJ3,HO_5,BK175,HB⟩:=hcut
  cases kq with
  | zero => exact absurd HA.out (by simp [cover_Rest.j0])
  | succ kj3 =>
   have H:=HA.out
   clear HA
   simp only [cover_Rest.j0] at H
   have H':=Aside0.mk H
   clear H
   go_wp2
   go_loopg [5,20] kj3 (fun kq v5 v20 w' => ∃ (x5_2:List (S37)) (x20_2:Int),v20 = .int .i64 x20_2 ∧ Aside0 (cover_Rest.l0 kq x5_2 l1 (l1.length:Int) x20_2 = some r) ∧ Aside0 (kq ≤ kj3) ∧ Aside0 (Kd.R k37 37 w' w.heap.size (fun k_ => k_ ≠ gb175) v5 x5_2) ∧ Aside0 (w'.heap[gb175]? = some (.cells #[.int .i64 a0_0,.int .i64 a0_1,.int .i64 a0_2,.int .i64 a0_3] 37 (0,0))) ∧ Aside0 (Below w.heap.size w w'))
   case atStart => exact ⟨(x5_3),(0),(by first | rfl | (simp; done) | (simp [*]; done)),H',⟨Nat.le_refl _⟩,⟨by (with_reducible repeat (first | apply Kd.R_alloc | apply Kd.R_drewN | apply Kd.R_drew)); exact HO_5.out⟩,⟨by (with_reducible repeat (first | refine blk_drewN ?_ _ | refine blk_drew ?_ | refine blk_alloc ?_ _)); exact BK175.out⟩,⟨by repeat (first | (with_reducible first | exact HB.out | apply below_alloc | apply pw_below_drewN | apply below_drew1 | refine below_set ?_ GE175.out) | exact HB.out)⟩⟩
   case round =>
    clear H'
    try clear c1
    try clear p2
    try clear c5
    try clear c8
    try clear c9
    try clear hcz10_0
    try clear hcz10_1
    try clear hcz10_2
    try clear hcz10_3
    try clear hcz6_0
    try clear hcz6_1
    try clear hcz6_2
    try clear hcz6_3
    try clear hfz10_0
    try clear hfz10_1
    try clear hfz10_2
    try clear hfz10_3
    try clear hfz6_0
    try clear hfz6_1
    try clear hfz6_2
    try clear hfz6_3
    try clear p2
    obtain ⟨x5_2,x20_2,rfl,HA,HK2,HO_5,BK175,HB⟩:=hrel
    cases gk with
    | zero => exact absurd HA.out (by simp [cover_Rest.l0])
    | succ k2 =>
     have H:=HA.out
     clear HA
     simp only [cover_Rest.l0] at H
     by_cases c12:x20_2 < (l1.length:Int)
     ·rw [if_pos c12] at H
      have c12b0:decide (x20_2 < (l1.length:Int)) = true:=decide_eq_true c12
      clear c12
      by_cases c13:0 ≤ x20_2
      ·rw [if_pos c13] at H
       have c13b0:decide (0 ≤ x20_2) = true:=decide_eq_true c13
       clear c13
       by_cases c14:x20_2 < (l1.length:Int)
       ·rw [if_pos c14] at H
        have c14b0:decide (x20_2 < (l1.length:Int)) = true:=decide_eq_true c14
        clear c14
        have H':=Aside0.mk H
        clear H
        have p180:0 ≤ (x20_2:Int):=of_decide_eq_true (by first | (with_reducible assumption) | assumption)
        have q180:x20_2 < (l1.length:Int):=of_decide_eq_true (by first | (with_reducible assumption) | assumption)
        obtain ⟨ad180,e180,hx180_0,hx180_1,hx180_2,hx180_3⟩:=at_T37 HR1.out x20_2 p180 q180
        cases e180
        replace hx180_0:=(HB.out.cell (World.block_lt_of_cell? w _ hx180_0)).trans hx180_0
        replace hx180_1:=(HB.out.cell (World.block_lt_of_cell? w _ hx180_1)).trans hx180_1
        replace hx180_2:=(HB.out.cell (World.block_lt_of_cell? w _ hx180_2)).trans hx180_2
        replace hx180_3:=(HB.out.cell (World.block_lt_of_cell? w _ hx180_3)).trans hx180_3
        replace p180:=eq_true p180
        replace q180:=eq_true q180
        go_wp2_with (first | ((with_reducible refine gate_dst (N:=7) rfl ?_); refine box_event ?hg (N:=7) ?hd (cs:=#[.int .i64 0,.int .i64 0,.int .i64 0,.int .i64 0]) (t:=37) ?hr ?_; (case hd => rfl); (case hg => rfl); (case hr => first | (go_simp; done) | (go_simp; rfl)); intro gb181 hg w15 hbox hb; have n0_:=Aside0.mk (Kd.R_below (Kd.R_elderB (by (with_reducible repeat (first | apply Kd.R_alloc | apply Kd.R_drewN | apply Kd.R_drew)); exact HO_5.out) gb181 (Nat.le_of_eq hg.symm)) hb); have n1_:=Aside0.mk (blk_below (g:=gb175) (o:=.cells #[.int .i64 a0_0,.int .i64 a0_1,.int .i64 a0_2,.int .i64 a0_3] 37 (0,0)) (by (with_reducible repeat (first | refine blk_drewN ?_ _ | refine blk_drew ?_ | refine blk_alloc ?_ _)); exact BK175.out) hb); have n2_:=Aside0.mk (below_step (by repeat (first | (with_reducible first | exact HB.out | apply below_alloc | apply pw_below_drewN | apply below_drew1 | refine below_set ?_ GE175.out) | exact HB.out)) hb); have n3_:=Aside0.mk (hbox); have n4_:=Aside0.mk ((by rw [hg]; exact (below_size (by repeat (first | (with_reducible first | exact HB.out | apply below_alloc | apply pw_below_drewN | apply below_drew1 | refine below_set ?_ GE175.out) | exact HB.out))):w.heap.size ≤ gb181)); have n5_:=Aside0.mk ((by rw [hg]; exact (below_size (by repeat (first | (with_reducible first | exact HB.out | apply below_alloc | apply pw_below_drewN | apply below_drew1 | refine below_set ?_ GE175.out) | exact HB.out))):w.heap.size ≤ gb181)); have n6_:=Aside0.mk ((by rw [hg]; exact Nat.ne_of_lt (blk_lt (g:=gb175) (o:=.cells #[.int .i64 a0_0,.int .i64 a0_1,.int .i64 a0_2,.int .i64 a0_3] 37 (0,0)) (by (with_reducible repeat (first | refine blk_drewN ?_ _ | refine blk_drew ?_ | refine blk_alloc ?_ _)); exact BK175.out)):gb175 ≠ gb181)); have n7_:=Aside0.mk ((by rw [hg]; exact Nat.ne_of_gt (blk_lt (g:=gb175) (o:=.cells #[.int .i64 a0_0,.int .i64 a0_1,.int .i64 a0_2,.int .i64 a0_3] 37 (0,0)) (by (with_reducible repeat (first | refine blk_drewN ?_ _ | refine blk_drew ?_ | refine blk_alloc ?_ _)); exact BK175.out)):gb181 ≠ gb175)); clear HO_5; clear BK175; clear HB; have HO_5:=n0_; have BK175:=n1_; have HB:=n2_; have BK181:=n3_; have GW181:=n4_; have GE181:=n5_; have NB175_181:=n6_; have NB181_175:=n7_; clear n0_ n1_ n2_ n3_ n4_ n5_ n6_ n7_; clear hb hbox hg; have hnb16:=NB181_175.out; have hnc16:=NB175_181.out; have hcz17_0:w15.cell? ⟨gb181,0,none⟩ = some (.int .i64 0):=(blk_cell BK181.out 0).trans rfl; have hcz17_1:w15.cell? ⟨gb181,1,none⟩ = some (.int .i64 0):=(blk_cell BK181.out 1).trans rfl; have hcz17_2:w15.cell? ⟨gb181,2,none⟩ = some (.int .i64 0):=(blk_cell BK181.out 2).trans rfl; have hcz17_3:w15.cell? ⟨gb181,3,none⟩ = some (.int .i64 0):=(blk_cell BK181.out 3).trans rfl; have hfz17_0:=blk_frozen BK181.out 0; have hfz17_1:=blk_frozen BK181.out 1; have hfz17_2:=blk_frozen BK181.out 2; have hfz17_3:=blk_frozen BK181.out 3; obtain ⟨Ao18,co18,eo18⟩:=Kd.R_slice HO_5.out; subst eo18))
        go_loopg [8,26] k2 (fun kq v8 v26 w' => ∃ (x8_3:List (S37)) (x26_3:Int),v26 = .int .i64 x26_3 ∧ Aside0 (cover_Rest.l1 kq x8_3 l1 (l1.length:Int) x20_2 x5_2 (x5_2.length:Int) x26_3 ((rd_T37 l1 x20_2).f0) ((rd_T37 l1 x20_2).f1) ((rd_T37 l1 x20_2).f2) ((rd_T37 l1 x20_2).f3) = some r) ∧ Aside0 (kq ≤ k2) ∧ Aside0 (Kd.R k37 37 w' w.heap.size (fun k_ => some k_ ≠ ((.slice Ao18 x5_2.length co18):Value).ownBlock ∧ k_ ≠ gb175 ∧ k_ ≠ gb181) v8 x8_3) ∧ Aside0 (Kd.R k37 37 w' w.heap.size (fun k_ => some k_ ≠ (v8:Value).ownBlock ∧ k_ ≠ gb175 ∧ k_ ≠ gb181) (.slice Ao18 x5_2.length co18) x5_2) ∧ Aside0 (w'.heap[gb175]? = some (.cells #[.int .i64 a0_0,.int .i64 a0_1,.int .i64 a0_2,.int .i64 a0_3] 37 (0,0))) ∧ Aside0 (w'.heap[gb181]? = some (.cells #[.int .i64 ((rd_T37 l1 x20_2).f0),.int .i64 ((rd_T37 l1 x20_2).f1),.int .i64 ((rd_T37 l1 x20_2).f2),.int .i64 ((rd_T37 l1 x20_2).f3)] 37 (0,0))) ∧ Aside0 (Below w.heap.size w w'))
        case atStart => exact ⟨(([]:List (S37))),(0),(by first | rfl | (simp; done) | (simp [*]; done)),H',⟨Nat.le_refl _⟩,⟨by first | exact Kd.R_nil _ _ _ _ _ | exact Kd.N_nil _ _ _ _ _ | exact Kd.V_nil _ _ _ _ _ | exact Kd.Q_nil _ _ _ _ _ | exact Kd.S_nil _ _ _ _ _⟩,⟨by (with_reducible repeat (first | apply Kd.R_alloc | apply Kd.R_drewN | apply Kd.R_drew)); exact Kd.R_mono (Kd.R_far (p:=⟨gb181,3,none⟩) (Kd.R_far (p:=⟨gb181,2,none⟩) (Kd.R_far (p:=⟨gb181,1,none⟩) (Kd.R_far (p:=⟨gb181,0,none⟩) (Kd.R_mono HO_5.out (fun k_ hk => (⟨hk,hk.2⟩:_ ∧ k_ ≠ gb181))) (fun _ hk => hk.2) (.int .i64 ((rd_T37 l1 x20_2).f0))) (fun _ hk => hk.2) (.int .i64 ((rd_T37 l1 x20_2).f1))) (fun _ hk => hk.2) (.int .i64 ((rd_T37 l1 x20_2).f2))) (fun _ hk => hk.2) (.int .i64 ((rd_T37 l1 x20_2).f3))) (fun _ hk => ⟨(by simp [Value.ownBlock]),⟨hk.1.1,hk.1.2⟩⟩)⟩,⟨by (with_reducible repeat (first | refine blk_drewN ?_ _ | refine blk_drew ?_ | refine blk_alloc ?_ _)); refine blk_far ?_ NB175_181.out _; (with_reducible repeat (first | refine blk_drewN ?_ _ | refine blk_drew ?_ | refine blk_alloc ?_ _)); refine blk_far ?_ NB175_181.out _; (with_reducible repeat (first | refine blk_drewN ?_ _ | refine blk_drew ?_ | refine blk_alloc ?_ _)); refine blk_far ?_ NB175_181.out _; (with_reducible repeat (first | refine blk_drewN ?_ _ | refine blk_drew ?_ | refine blk_alloc ?_ _)); refine blk_far ?_ NB175_181.out _; (with_reducible repeat (first | refine blk_drewN ?_ _ | refine blk_drew ?_ | refine blk_alloc ?_ _)); exact BK175.out⟩,⟨by (with_reducible repeat (first | refine blk_drewN ?_ _ | refine blk_drew ?_ | refine blk_alloc ?_ _)); refine blk_put (cs:=#[.int .i64 ((rd_T37 l1 x20_2).f0),.int .i64 ((rd_T37 l1 x20_2).f1),.int .i64 ((rd_T37 l1 x20_2).f2),.int .i64 0]) ?_ 3 _ rfl; (with_reducible repeat (first | refine blk_drewN ?_ _ | refine blk_drew ?_ | refine blk_alloc ?_ _)); refine blk_put (cs:=#[.int .i64 ((rd_T37 l1 x20_2).f0),.int .i64 ((rd_T37 l1 x20_2).f1),.int .i64 0,.int .i64 0]) ?_ 2 _ rfl; (with_reducible repeat (first | refine blk_drewN ?_ _ | refine blk_drew ?_ | refine blk_alloc ?_ _)); refine blk_put (cs:=#[.int .i64 ((rd_T37 l1 x20_2).f0),.int .i64 0,.int .i64 0,.int .i64 0]) ?_ 1 _ rfl; (with_reducible repeat (first | refine blk_drewN ?_ _ | refine blk_drew ?_ | refine blk_alloc ?_ _)); refine blk_put (cs:=#[.int .i64 0,.int .i64 0,.int .i64 0,.int .i64 0]) ?_ 0 _ rfl; (with_reducible repeat (first | refine blk_drewN ?_ _ | refine blk_drew ?_ | refine blk_alloc ?_ _)); exact BK181.out⟩,⟨by repeat (first | (with_reducible first | exact HB.out | apply below_alloc | apply pw_below_drewN | apply below_drew1 | refine below_set ?_ GE175.out | refine below_set ?_ GE181.out) | exact HB.out)⟩⟩
        case round =>
         clear H'
         try clear c1
         try clear p1
         try clear q1
         try clear hx1
         try clear p2
         try clear c5
         try clear c8
         try clear c9
         try clear c12
         try clear c12b0
         try clear c13
         try clear c13b0
         try clear c14
         try clear c14b0
         try clear c16
         try clear p18
         try clear q18
         try clear hx18
         try clear hcz10_0
         try clear hcz10_1
         try clear hcz10_2
         try clear hcz10_3
         try clear hcz17_0
         try clear hcz17_1
         try clear hcz17_2
         try clear hcz17_3
         try clear hcz6_0
         try clear hcz6_1
         try clear hcz6_2
         try clear hcz6_3
         try clear hfz10_0
         try clear hfz10_1
         try clear hfz10_2
         try clear hfz10_3
         try clear hfz17_0
         try clear hfz17_1
         try clear hfz17_2
         try clear hfz17_3
         try clear hfz6_0
         try clear hfz6_1
         try clear hfz6_2
         try clear hfz6_3
         try clear hx180_0
         try clear hx180_1
         try clear hx180_2
         try clear hx180_3
         try clear p180
         try clear p2
         try clear q180
         obtain ⟨x8_3,x26_3,rfl,HA,HK3,HO_8,HO_24,BK175,BK181,HB⟩:=hrel
         cases gk with
         | zero => exact absurd HA.out (by simp [cover_Rest.l1])
         | succ k3 =>
          have H:=HA.out
          clear HA
          simp only [cover_Rest.l1] at H
          by_cases c19:x26_3 < (x5_2.length:Int)
          ·rw [if_pos c19] at H
           have c19b0:decide (x26_3 < (x5_2.length:Int)) = true:=decide_eq_true c19
           clear c19
           by_cases c20:0 ≤ x26_3
           ·rw [if_pos c20] at H
            have c20b0:decide (0 ≤ x26_3) = true:=decide_eq_true c20
            clear c20
            by_cases c21:x26_3 < (x5_2.length:Int)
            ·rw [if_pos c21] at H
             have c21b0:decide (x26_3 < (x5_2.length:Int)) = true:=decide_eq_true c21
             clear c21
             replace H:=Option.bind_eq_some_iff.mp H
             obtain ⟨t184,A220,H⟩:=H
             replace H:(if x8_3.length + t184.length < 4398046511104 then (cover_Rest.l1 k3 (x8_3 ++ t184) l1 (l1.length:Int) x20_2 x5_2 (x5_2.length:Int) (wrap64 (x26_3 + 1)) ((rd_T37 l1 x20_2).f0) ((rd_T37 l1 x20_2).f1) ((rd_T37 l1 x20_2).f2) ((rd_T37 l1 x20_2).f3)) else (none)) = some r:=H
             have A22:=Aside0.mk A220
             clear A220
             by_cases c23:x8_3.length + t184.length < 4398046511104
             ·rw [if_pos c23] at H
              have LMc23:=Aside0.mk c23
              clear c23
              obtain ⟨y187,hy187⟩:∃ y_:List (S37),y_ = (x8_3 ++ t184):=⟨_,rfl⟩
              replace H:(cover_Rest.l1 k3 y187 l1 (l1.length:Int) x20_2 x5_2 (x5_2.length:Int) (wrap64 (x26_3 + 1)) ((rd_T37 l1 x20_2).f0) ((rd_T37 l1 x20_2).f1) ((rd_T37 l1 x20_2).f2) ((rd_T37 l1 x20_2).f3)) = some r:=by first | (rw [hy187]; with_reducible exact H) | (have H2_:=(Option.bind_some _ _).symm.trans H; rw [hy187]; with_reducible exact H2_) | (have H2_:=(Option.bind_some _ _).symm.trans H; with_reducible exact H2_) | with_reducible exact H | (rw [hy187]; exact H) | exact H
              have Ny187:=Aside0.mk hy187
              clear hy187
              have H':=Aside0.mk H
              clear H
              have p182:0 ≤ (x26_3:Int):=of_decide_eq_true (by first | (with_reducible assumption) | assumption)
              have q182:x26_3 < (x5_2.length:Int):=of_decide_eq_true (by first | (with_reducible assumption) | assumption)
              obtain ⟨ad182,e182,hx182_0,hx182_1,hx182_2,hx182_3⟩:=at_T37 (Kd.R_reads' HO_24.out).2.2 x26_3 p182 q182
              cases e182
              replace p182:=eq_true p182
              replace q182:=eq_true q182
              go_wp2_with (first | ((with_reducible refine gate_dst (N:=10) rfl ?_); refine box_event ?hg (N:=10) ?hd (cs:=#[.int .i64 0,.int .i64 0,.int .i64 0,.int .i64 0]) (t:=37) ?hr ?_; (case hd => rfl); (case hg => rfl); (case hr => first | (go_simp; done) | (go_simp; rfl)); intro gb183 hg w24 hbox hb; have n0_:=Aside0.mk (Kd.R_below (Kd.R_elderB (by (with_reducible repeat (first | apply Kd.R_alloc | apply Kd.R_drewN | apply Kd.R_drew)); exact HO_8.out) gb183 (Nat.le_of_eq hg.symm)) hb); have n1_:=Aside0.mk (Kd.R_below (Kd.R_elderB (by (with_reducible repeat (first | apply Kd.R_alloc | apply Kd.R_drewN | apply Kd.R_drew)); exact HO_24.out) gb183 (Nat.le_of_eq hg.symm)) hb); have n2_:=Aside0.mk (blk_below (g:=gb175) (o:=.cells #[.int .i64 a0_0,.int .i64 a0_1,.int .i64 a0_2,.int .i64 a0_3] 37 (0,0)) (by (with_reducible repeat (first | refine blk_drewN ?_ _ | refine blk_drew ?_ | refine blk_alloc ?_ _)); exact BK175.out) hb); have n3_:=Aside0.mk (blk_below (g:=gb181) (o:=.cells #[.int .i64 ((rd_T37 l1 x20_2).f0),.int .i64 ((rd_T37 l1 x20_2).f1),.int .i64 ((rd_T37 l1 x20_2).f2),.int .i64 ((rd_T37 l1 x20_2).f3)] 37 (0,0)) (by (with_reducible repeat (first | refine blk_drewN ?_ _ | refine blk_drew ?_ | refine blk_alloc ?_ _)); exact BK181.out) hb); have n4_:=Aside0.mk (below_step (by repeat (first | (with_reducible first | exact HB.out | apply below_alloc | apply pw_below_drewN | apply below_drew1 | refine below_set ?_ GE175.out | refine below_set ?_ GE181.out) | exact HB.out)) hb); have n5_:=Aside0.mk (hbox); have n6_:=Aside0.mk ((by rw [hg]; exact (below_size (by repeat (first | (with_reducible first | exact HB.out | apply below_alloc | apply pw_below_drewN | apply below_drew1 | refine below_set ?_ GE175.out | refine below_set ?_ GE181.out) | exact HB.out))):w.heap.size ≤ gb183)); have n7_:=Aside0.mk ((by rw [hg]; exact (below_size (by repeat (first | (with_reducible first | exact HB.out | apply below_alloc | apply pw_below_drewN | apply below_drew1 | refine below_set ?_ GE175.out | refine below_set ?_ GE181.out) | exact HB.out))):w.heap.size ≤ gb183)); have n8_:=Aside0.mk ((by rw [hg]; exact Nat.ne_of_lt (blk_lt (g:=gb175) (o:=.cells #[.int .i64 a0_0,.int .i64 a0_1,.int .i64 a0_2,.int .i64 a0_3] 37 (0,0)) (by (with_reducible repeat (first | refine blk_drewN ?_ _ | refine blk_drew ?_ | refine blk_alloc ?_ _)); exact BK175.out)):gb175 ≠ gb183)); have n9_:=Aside0.mk ((by rw [hg]; exact Nat.ne_of_gt (blk_lt (g:=gb175) (o:=.cells #[.int .i64 a0_0,.int .i64 a0_1,.int .i64 a0_2,.int .i64 a0_3] 37 (0,0)) (by (with_reducible repeat (first | refine blk_drewN ?_ _ | refine blk_drew ?_ | refine blk_alloc ?_ _)); exact BK175.out)):gb183 ≠ gb175)); have n10_:=Aside0.mk ((by rw [hg]; exact Nat.ne_of_lt (blk_lt (g:=gb181) (o:=.cells #[.int .i64 ((rd_T37 l1 x20_2).f0),.int .i64 ((rd_T37 l1 x20_2).f1),.int .i64 ((rd_T37 l1 x20_2).f2),.int .i64 ((rd_T37 l1 x20_2).f3)] 37 (0,0)) (by (with_reducible repeat (first | refine blk_drewN ?_ _ | refine blk_drew ?_ | refine blk_alloc ?_ _)); exact BK181.out)):gb181 ≠ gb183)); have n11_:=Aside0.mk ((by rw [hg]; exact Nat.ne_of_gt (blk_lt (g:=gb181) (o:=.cells #[.int .i64 ((rd_T37 l1 x20_2).f0),.int .i64 ((rd_T37 l1 x20_2).f1),.int .i64 ((rd_T37 l1 x20_2).f2),.int .i64 ((rd_T37 l1 x20_2).f3)] 37 (0,0)) (by (with_reducible repeat (first | refine blk_drewN ?_ _ | refine blk_drew ?_ | refine blk_alloc ?_ _)); exact BK181.out)):gb183 ≠ gb181)); clear HO_8; clear HO_24; clear BK175; clear BK181; clear HB; have HO_8:=n0_; have HO_24:=n1_; have BK175:=n2_; have BK181:=n3_; have HB:=n4_; have BK183:=n5_; have GW183:=n6_; have GE183:=n7_; have NB175_183:=n8_; have NB183_175:=n9_; have NB181_183:=n10_; have NB183_181:=n11_; clear n0_ n1_ n2_ n3_ n4_ n5_ n6_ n7_ n8_ n9_ n10_ n11_; clear hb hbox hg; have hnb25:=NB183_175.out; have hnc25:=NB175_183.out; have hnb26:=NB183_181.out; have hnc26:=NB181_183.out; have hcz27_0:w24.cell? ⟨gb183,0,none⟩ = some (.int .i64 0):=(blk_cell BK183.out 0).trans rfl; have hcz27_1:w24.cell? ⟨gb183,1,none⟩ = some (.int .i64 0):=(blk_cell BK183.out 1).trans rfl; have hcz27_2:w24.cell? ⟨gb183,2,none⟩ = some (.int .i64 0):=(blk_cell BK183.out 2).trans rfl; have hcz27_3:w24.cell? ⟨gb183,3,none⟩ = some (.int .i64 0):=(blk_cell BK183.out 3).trans rfl; have hfz27_0:=blk_frozen BK183.out 0; have hfz27_1:=blk_frozen BK183.out 1; have hfz27_2:=blk_frozen BK183.out 2; have hfz27_3:=blk_frozen BK183.out 3; have hnb28:=NB181_175.out; have hnc28:=NB175_181.out; have hcz29_0:w24.cell? ⟨gb181,0,none⟩ = some (.int .i64 ((rd_T37 l1 x20_2).f0)):=(blk_cell BK181.out 0).trans rfl; have hcz29_1:w24.cell? ⟨gb181,1,none⟩ = some (.int .i64 ((rd_T37 l1 x20_2).f1)):=(blk_cell BK181.out 1).trans rfl; have hcz29_2:w24.cell? ⟨gb181,2,none⟩ = some (.int .i64 ((rd_T37 l1 x20_2).f2)):=(blk_cell BK181.out 2).trans rfl; have hcz29_3:w24.cell? ⟨gb181,3,none⟩ = some (.int .i64 ((rd_T37 l1 x20_2).f3)):=(blk_cell BK181.out 3).trans rfl; have hfz29_0:=blk_frozen BK181.out 0; have hfz29_1:=blk_frozen BK181.out 1; have hfz29_2:=blk_frozen BK181.out 2; have hfz29_3:=blk_frozen BK181.out 3) | ((with_reducible refine gate_callee (f:=66) rfl ?_); refine goesL_ (some 33) rfl rfl Try.func66 (by kernel_rfl) rfl #[.agg #[.int .i64 ((rd_T37 x5_2 x26_3).f0),.int .i64 ((rd_T37 x5_2 x26_3).f1),.int .i64 ((rd_T37 x5_2 x26_3).f2),.int .i64 ((rd_T37 x5_2 x26_3).f3)],.agg #[.int .i64 ((rd_T37 l1 x20_2).f0),.int .i64 ((rd_T37 l1 x20_2).f1),.int .i64 ((rd_T37 l1 x20_2).f2),.int .i64 ((rd_T37 l1 x20_2).f3)]] rfl (by (try simp only [List.map_toArray,List.map_cons,List.map_nil]); first | done | rfl | (simp only [List.length_drop,List.length_take]; rfl)) ?_; (with_reducible refine (rect_Cut.calls k3 ((rd_T37 x5_2 x26_3).f0) ((rd_T37 x5_2 x26_3).f1) ((rd_T37 x5_2 x26_3).f2) ((rd_T37 x5_2 x26_3).f3) ((rd_T37 l1 x20_2).f0) ((rd_T37 l1 x20_2).f1) ((rd_T37 l1 x20_2).f2) ((rd_T37 l1 x20_2).f3) t184 _ A22.out).mono ?_); rintro e w30 ⟨v185,rfl,ho0,hb⟩; refine ⟨_,rfl,?_⟩; have n0_:=Aside0.mk (Kd.R_elder' (by (with_reducible repeat (first | apply Kd.R_alloc | apply Kd.R_drewN | apply Kd.R_drew)); exact (Kd.R_mono (Kd.R_far (p:=⟨gb183,3,none⟩) (Kd.R_far (p:=⟨gb183,2,none⟩) (Kd.R_far (p:=⟨gb183,1,none⟩) (Kd.R_far (p:=⟨gb183,0,none⟩) (Kd.R_mono HO_8.out (fun k_ hk => (⟨hk,hk.2⟩:_ ∧ k_ ≠ gb183))) (fun _ hk => hk.2) (.int .i64 ((rd_T37 x5_2 x26_3).f0))) (fun _ hk => hk.2) (.int .i64 ((rd_T37 x5_2 x26_3).f1))) (fun _ hk => hk.2) (.int .i64 ((rd_T37 x5_2 x26_3).f2))) (fun _ hk => hk.2) (.int .i64 ((rd_T37 x5_2 x26_3).f3))) (fun _ h_ => h_.1))) (Kd.R_base ho0) hb); have n1_:=Aside0.mk (Kd.R_elder' (by (with_reducible repeat (first | apply Kd.R_alloc | apply Kd.R_drewN | apply Kd.R_drew)); exact (Kd.R_mono (Kd.R_far (p:=⟨gb183,3,none⟩) (Kd.R_far (p:=⟨gb183,2,none⟩) (Kd.R_far (p:=⟨gb183,1,none⟩) (Kd.R_far (p:=⟨gb183,0,none⟩) (Kd.R_mono HO_24.out (fun k_ hk => (⟨hk,hk.2⟩:_ ∧ k_ ≠ gb183))) (fun _ hk => hk.2) (.int .i64 ((rd_T37 x5_2 x26_3).f0))) (fun _ hk => hk.2) (.int .i64 ((rd_T37 x5_2 x26_3).f1))) (fun _ hk => hk.2) (.int .i64 ((rd_T37 x5_2 x26_3).f2))) (fun _ hk => hk.2) (.int .i64 ((rd_T37 x5_2 x26_3).f3))) (fun _ h_ => h_.1))) (Kd.R_base ho0) hb); have n2_:=Aside0.mk (Kd.R_lower (Kd.R_newB (Kd.R_newB (Kd.R_newB (Kd.R_new' (Kd.R_new' ho0 (Kd.R_lt (by (with_reducible repeat (first | apply Kd.R_alloc | apply Kd.R_drewN | apply Kd.R_drew)); exact (Kd.R_mono (Kd.R_far (p:=⟨gb183,3,none⟩) (Kd.R_far (p:=⟨gb183,2,none⟩) (Kd.R_far (p:=⟨gb183,1,none⟩) (Kd.R_far (p:=⟨gb183,0,none⟩) (Kd.R_mono HO_8.out (fun k_ hk => (⟨hk,hk.2⟩:_ ∧ k_ ≠ gb183))) (fun _ hk => hk.2) (.int .i64 ((rd_T37 x5_2 x26_3).f0))) (fun _ hk => hk.2) (.int .i64 ((rd_T37 x5_2 x26_3).f1))) (fun _ hk => hk.2) (.int .i64 ((rd_T37 x5_2 x26_3).f2))) (fun _ hk => hk.2) (.int .i64 ((rd_T37 x5_2 x26_3).f3))) (fun _ h_ => h_.1))))) (Kd.R_lt (by (with_reducible repeat (first | apply Kd.R_alloc | apply Kd.R_drewN | apply Kd.R_drew)); exact (Kd.R_mono (Kd.R_far (p:=⟨gb183,3,none⟩) (Kd.R_far (p:=⟨gb183,2,none⟩) (Kd.R_far (p:=⟨gb183,1,none⟩) (Kd.R_far (p:=⟨gb183,0,none⟩) (Kd.R_mono HO_24.out (fun k_ hk => (⟨hk,hk.2⟩:_ ∧ k_ ≠ gb183))) (fun _ hk => hk.2) (.int .i64 ((rd_T37 x5_2 x26_3).f0))) (fun _ hk => hk.2) (.int .i64 ((rd_T37 x5_2 x26_3).f1))) (fun _ hk => hk.2) (.int .i64 ((rd_T37 x5_2 x26_3).f2))) (fun _ hk => hk.2) (.int .i64 ((rd_T37 x5_2 x26_3).f3))) (fun _ h_ => h_.1))))) (g:=gb175) (o:=.cells #[.int .i64 a0_0,.int .i64 a0_1,.int .i64 a0_2,.int .i64 a0_3] 37 (0,0)) (by (with_reducible repeat (first | refine blk_drewN ?_ _ | refine blk_drew ?_ | refine blk_alloc ?_ _)); refine blk_far ?_ NB175_183.out _; (with_reducible repeat (first | refine blk_drewN ?_ _ | refine blk_drew ?_ | refine blk_alloc ?_ _)); refine blk_far ?_ NB175_183.out _; (with_reducible repeat (first | refine blk_drewN ?_ _ | refine blk_drew ?_ | refine blk_alloc ?_ _)); refine blk_far ?_ NB175_183.out _; (with_reducible repeat (first | refine blk_drewN ?_ _ | refine blk_drew ?_ | refine blk_alloc ?_ _)); refine blk_far ?_ NB175_183.out _; (with_reducible repeat (first | refine blk_drewN ?_ _ | refine blk_drew ?_ | refine blk_alloc ?_ _)); exact BK175.out)) (g:=gb181) (o:=.cells #[.int .i64 ((rd_T37 l1 x20_2).f0),.int .i64 ((rd_T37 l1 x20_2).f1),.int .i64 ((rd_T37 l1 x20_2).f2),.int .i64 ((rd_T37 l1 x20_2).f3)] 37 (0,0)) (by (with_reducible repeat (first | refine blk_drewN ?_ _ | refine blk_drew ?_ | refine blk_alloc ?_ _)); refine blk_far ?_ NB181_183.out _; (with_reducible repeat (first | refine blk_drewN ?_ _ | refine blk_drew ?_ | refine blk_alloc ?_ _)); refine blk_far ?_ NB181_183.out _; (with_reducible repeat (first | refine blk_drewN ?_ _ | refine blk_drew ?_ | refine blk_alloc ?_ _)); refine blk_far ?_ NB181_183.out _; (with_reducible repeat (first | refine blk_drewN ?_ _ | refine blk_drew ?_ | refine blk_alloc ?_ _)); refine blk_far ?_ NB181_183.out _; (with_reducible repeat (first | refine blk_drewN ?_ _ | refine blk_drew ?_ | refine blk_alloc ?_ _)); exact BK181.out)) (g:=gb183) (o:=.cells #[.int .i64 ((rd_T37 x5_2 x26_3).f0),.int .i64 ((rd_T37 x5_2 x26_3).f1),.int .i64 ((rd_T37 x5_2 x26_3).f2),.int .i64 ((rd_T37 x5_2 x26_3).f3)] 37 (0,0)) (by (with_reducible repeat (first | refine blk_drewN ?_ _ | refine blk_drew ?_ | refine blk_alloc ?_ _)); refine blk_put (cs:=#[.int .i64 ((rd_T37 x5_2 x26_3).f0),.int .i64 ((rd_T37 x5_2 x26_3).f1),.int .i64 ((rd_T37 x5_2 x26_3).f2),.int .i64 0]) ?_ 3 _ rfl; (with_reducible repeat (first | refine blk_drewN ?_ _ | refine blk_drew ?_ | refine blk_alloc ?_ _)); refine blk_put (cs:=#[.int .i64 ((rd_T37 x5_2 x26_3).f0),.int .i64 ((rd_T37 x5_2 x26_3).f1),.int .i64 0,.int .i64 0]) ?_ 2 _ rfl; (with_reducible repeat (first | refine blk_drewN ?_ _ | refine blk_drew ?_ | refine blk_alloc ?_ _)); refine blk_put (cs:=#[.int .i64 ((rd_T37 x5_2 x26_3).f0),.int .i64 0,.int .i64 0,.int .i64 0]) ?_ 1 _ rfl; (with_reducible repeat (first | refine blk_drewN ?_ _ | refine blk_drew ?_ | refine blk_alloc ?_ _)); refine blk_put (cs:=#[.int .i64 0,.int .i64 0,.int .i64 0,.int .i64 0]) ?_ 0 _ rfl; (with_reducible repeat (first | refine blk_drewN ?_ _ | refine blk_drew ?_ | refine blk_alloc ?_ _)); exact BK183.out)) (below_size (by repeat (first | (with_reducible first | exact HB.out | apply below_alloc | apply pw_below_drewN | apply below_drew1 | refine below_set ?_ GE175.out | refine below_set ?_ GE181.out | refine below_set ?_ GE183.out) | exact HB.out)))); have n3_:=Aside0.mk (blk_below (g:=gb175) (o:=.cells #[.int .i64 a0_0,.int .i64 a0_1,.int .i64 a0_2,.int .i64 a0_3] 37 (0,0)) (by (with_reducible repeat (first | refine blk_drewN ?_ _ | refine blk_drew ?_ | refine blk_alloc ?_ _)); refine blk_far ?_ NB175_183.out _; (with_reducible repeat (first | refine blk_drewN ?_ _ | refine blk_drew ?_ | refine blk_alloc ?_ _)); refine blk_far ?_ NB175_183.out _; (with_reducible repeat (first | refine blk_drewN ?_ _ | refine blk_drew ?_ | refine blk_alloc ?_ _)); refine blk_far ?_ NB175_183.out _; (with_reducible repeat (first | refine blk_drewN ?_ _ | refine blk_drew ?_ | refine blk_alloc ?_ _)); refine blk_far ?_ NB175_183.out _; (with_reducible repeat (first | refine blk_drewN ?_ _ | refine blk_drew ?_ | refine blk_alloc ?_ _)); exact BK175.out) hb); have n4_:=Aside0.mk (blk_below (g:=gb181) (o:=.cells #[.int .i64 ((rd_T37 l1 x20_2).f0),.int .i64 ((rd_T37 l1 x20_2).f1),.int .i64 ((rd_T37 l1 x20_2).f2),.int .i64 ((rd_T37 l1 x20_2).f3)] 37 (0,0)) (by (with_reducible repeat (first | refine blk_drewN ?_ _ | refine blk_drew ?_ | refine blk_alloc ?_ _)); refine blk_far ?_ NB181_183.out _; (with_reducible repeat (first | refine blk_drewN ?_ _ | refine blk_drew ?_ | refine blk_alloc ?_ _)); refine blk_far ?_ NB181_183.out _; (with_reducible repeat (first | refine blk_drewN ?_ _ | refine blk_drew ?_ | refine blk_alloc ?_ _)); refine blk_far ?_ NB181_183.out _; (with_reducible repeat (first | refine blk_drewN ?_ _ | refine blk_drew ?_ | refine blk_alloc ?_ _)); refine blk_far ?_ NB181_183.out _; (with_reducible repeat (first | refine blk_drewN ?_ _ | refine blk_drew ?_ | refine blk_alloc ?_ _)); exact BK181.out) hb); have n5_:=Aside0.mk (blk_below (g:=gb183) (o:=.cells #[.int .i64 ((rd_T37 x5_2 x26_3).f0),.int .i64 ((rd_T37 x5_2 x26_3).f1),.int .i64 ((rd_T37 x5_2 x26_3).f2),.int .i64 ((rd_T37 x5_2 x26_3).f3)] 37 (0,0)) (by (with_reducible repeat (first | refine blk_drewN ?_ _ | refine blk_drew ?_ | refine blk_alloc ?_ _)); refine blk_put (cs:=#[.int .i64 ((rd_T37 x5_2 x26_3).f0),.int .i64 ((rd_T37 x5_2 x26_3).f1),.int .i64 ((rd_T37 x5_2 x26_3).f2),.int .i64 0]) ?_ 3 _ rfl; (with_reducible repeat (first | refine blk_drewN ?_ _ | refine blk_drew ?_ | refine blk_alloc ?_ _)); refine blk_put (cs:=#[.int .i64 ((rd_T37 x5_2 x26_3).f0),.int .i64 ((rd_T37 x5_2 x26_3).f1),.int .i64 0,.int .i64 0]) ?_ 2 _ rfl; (with_reducible repeat (first | refine blk_drewN ?_ _ | refine blk_drew ?_ | refine blk_alloc ?_ _)); refine blk_put (cs:=#[.int .i64 ((rd_T37 x5_2 x26_3).f0),.int .i64 0,.int .i64 0,.int .i64 0]) ?_ 1 _ rfl; (with_reducible repeat (first | refine blk_drewN ?_ _ | refine blk_drew ?_ | refine blk_alloc ?_ _)); refine blk_put (cs:=#[.int .i64 0,.int .i64 0,.int .i64 0,.int .i64 0]) ?_ 0 _ rfl; (with_reducible repeat (first | refine blk_drewN ?_ _ | refine blk_drew ?_ | refine blk_alloc ?_ _)); exact BK183.out) hb); have n6_:=Aside0.mk (below_step (by repeat (first | (with_reducible first | exact HB.out | apply below_alloc | apply pw_below_drewN | apply below_drew1 | refine below_set ?_ GE175.out | refine below_set ?_ GE181.out | refine below_set ?_ GE183.out) | exact HB.out)) hb); clear HO_8; clear HO_24; clear BK175; clear BK181; clear BK183; clear HB; have HO_8:=n0_; have HO_24:=n1_; have HO186:=n2_; have BK175:=n3_; have BK181:=n4_; have BK183:=n5_; have HB:=n6_; clear n0_ n1_ n2_ n3_ n4_ n5_ n6_; (try clear hb); (try clear hb2); (try clear hk); (try clear hi); (try clear ho0); obtain ⟨Ao32,co32,eo32⟩:=Kd.R_slice HO186.out; subst eo32) | ((with_reducible refine gate_builtin (b:=.append) (xs:=#[.tmp 30,.tmp 33]) rfl ?_); at_builtin; refine Kd.R_append_rows k37 (w0:=w) w.heap.size rfl (.tmp 30) (.tmp 33) 29 37 (.agg #[(.int .i64 0),(.int .i64 0),(.int .i64 0),(.int .i64 0)]) 32 rfl Try.underlying29 info37 rfl (by decide) (by omega) u8 x8_3 t184 _ _ _ (fun k_ => some k_ ≠ (.slice (some ad182) x5_2.length co18:Value).ownBlock ∧ some k_ ≠ (.slice Ao32 t184.length co32:Value).ownBlock ∧ k_ ≠ gb175 ∧ k_ ≠ gb181 ∧ k_ ≠ gb183) (fun _ => False) rfl rfl ?aO ?aR (fun _ _ h => h) (fun _ h => h.elim) ?aF ?aB ?aS ?aL ?_; (case aR => repeat (first | exact (Kd.R_reads' HO186.out).2.2 | (with_reducible refine Kd.C_alloc ?_ _) | (with_reducible refine Kd.C_drewN ?_ _) | (with_reducible refine Kd.C_drew ?_))); (case aB => exact (by repeat (first | (with_reducible first | exact HB.out | apply below_alloc | apply pw_below_drewN | apply below_drew1 | refine below_set ?_ GE175.out | refine below_set ?_ GE181.out | refine below_set ?_ GE183.out) | exact HB.out))); (case aF => exact (fun k_ hk => ⟨Kd.fresh' (Kd.R_lt (by (with_reducible repeat (first | apply Kd.R_alloc | apply Kd.R_drewN | apply Kd.R_drew)); exact HO_24.out)) k_ hk,Kd.fresh' (Kd.R_lt (by (with_reducible repeat (first | apply Kd.R_alloc | apply Kd.R_drewN | apply Kd.R_drew)); exact HO186.out)) k_ hk,Kd.freshB (g:=gb175) (o:=.cells #[.int .i64 a0_0,.int .i64 a0_1,.int .i64 a0_2,.int .i64 a0_3] 37 (0,0)) (by (with_reducible repeat (first | refine blk_drewN ?_ _ | refine blk_drew ?_ | refine blk_alloc ?_ _)); exact BK175.out) k_ hk,Kd.freshB (g:=gb181) (o:=.cells #[.int .i64 ((rd_T37 l1 x20_2).f0),.int .i64 ((rd_T37 l1 x20_2).f1),.int .i64 ((rd_T37 l1 x20_2).f2),.int .i64 ((rd_T37 l1 x20_2).f3)] 37 (0,0)) (by (with_reducible repeat (first | refine blk_drewN ?_ _ | refine blk_drew ?_ | refine blk_alloc ?_ _)); exact BK181.out) k_ hk,Kd.freshB (g:=gb183) (o:=.cells #[.int .i64 ((rd_T37 x5_2 x26_3).f0),.int .i64 ((rd_T37 x5_2 x26_3).f1),.int .i64 ((rd_T37 x5_2 x26_3).f2),.int .i64 ((rd_T37 x5_2 x26_3).f3)] 37 (0,0)) (by (with_reducible repeat (first | refine blk_drewN ?_ _ | refine blk_drew ?_ | refine blk_alloc ?_ _)); exact BK183.out) k_ hk⟩)); (case aO => exact (by (with_reducible repeat (first | apply Kd.R_alloc | apply Kd.R_drewN | apply Kd.R_drew)); exact Kd.R_mono HO_8.out (fun _ hk => ⟨hk.1.1.1,⟨hk.2,⟨hk.1.1.2.1,⟨hk.1.1.2.2,hk.1.2⟩⟩⟩⟩))); (case aS => exact (below_size (by repeat (first | (with_reducible first | exact HB.out | apply below_alloc | apply pw_below_drewN | apply below_drew1 | refine below_set ?_ GE175.out | refine below_set ?_ GE181.out | refine below_set ?_ GE183.out) | exact HB.out)))); (case aL => have:=LMc23.out; omega); intro v188 w31 ho hb hg hat; rw [← Ny187.out] at ho; have n0_:=Aside0.mk (Kd.R_after (ok:=(fun k_ => some k_ ≠ (.slice Ao32 t184.length co32:Value).ownBlock ∧ k_ ≠ gb175 ∧ k_ ≠ gb181 ∧ k_ ≠ gb183)) (by (with_reducible repeat (first | apply Kd.R_alloc | apply Kd.R_drewN | apply Kd.R_drew)); exact Kd.R_mono HO_24.out (fun _ hk => ⟨⟨hk.2,⟨hk.1.1.2.1,⟨hk.1.1.2.2,hk.1.2⟩⟩⟩,hk.1.1.1⟩)) hg hat); have n1_:=Aside0.mk (blk_grown (g:=gb175) (o:=.cells #[.int .i64 a0_0,.int .i64 a0_1,.int .i64 a0_2,.int .i64 a0_3] 37 (0,0)) (by (with_reducible repeat (first | refine blk_drewN ?_ _ | refine blk_drew ?_ | refine blk_alloc ?_ _)); exact BK175.out) hg (Kd.R_away HO_8.out (fun _ hk => hk.1.1.2.1))); have n2_:=Aside0.mk (blk_grown (g:=gb181) (o:=.cells #[.int .i64 ((rd_T37 l1 x20_2).f0),.int .i64 ((rd_T37 l1 x20_2).f1),.int .i64 ((rd_T37 l1 x20_2).f2),.int .i64 ((rd_T37 l1 x20_2).f3)] 37 (0,0)) (by (with_reducible repeat (first | refine blk_drewN ?_ _ | refine blk_drew ?_ | refine blk_alloc ?_ _)); exact BK181.out) hg (Kd.R_away HO_8.out (fun _ hk => hk.1.1.2.2))); have n3_:=Aside0.mk (blk_grown (g:=gb183) (o:=.cells #[.int .i64 ((rd_T37 x5_2 x26_3).f0),.int .i64 ((rd_T37 x5_2 x26_3).f1),.int .i64 ((rd_T37 x5_2 x26_3).f2),.int .i64 ((rd_T37 x5_2 x26_3).f3)] 37 (0,0)) (by (with_reducible repeat (first | refine blk_drewN ?_ _ | refine blk_drew ?_ | refine blk_alloc ?_ _)); exact BK183.out) hg (Kd.R_away HO_8.out (fun _ hk => hk.1.2))); have n4_:=Aside0.mk (Kd.R_after (ok:=(fun k_ => some k_ ≠ (.slice (some ad182) x5_2.length co18:Value).ownBlock ∧ k_ ≠ gb175 ∧ k_ ≠ gb181 ∧ k_ ≠ gb183)) (by (with_reducible repeat (first | apply Kd.R_alloc | apply Kd.R_drewN | apply Kd.R_drew)); exact Kd.R_mono HO186.out (fun _ hk => ⟨⟨hk.1.1.1.2,⟨hk.1.1.2,⟨hk.1.2,hk.2⟩⟩⟩,hk.1.1.1.1.2⟩)) hg hat); have n5_:=Aside0.mk (hb); have n6_:=Aside0.mk (ho); clear HO_24; clear BK175; clear BK181; clear BK183; clear HO186; clear HB; clear HO_8; have HO_24:=n0_; have BK175:=n1_; have BK181:=n2_; have BK183:=n3_; have HO186:=n4_; have HB:=n5_; have HO189:=n6_; clear n0_ n1_ n2_ n3_ n4_ n5_ n6_; clear ho hb hg hat))
              go_roundg k3
              case measure => have:=HJ3.out; have:=HK2.out; have:=HK3.out; omega
              case rel => exact ⟨(y187),(wrap64 (x26_3 + 1)),(by first | rfl | (simp; done) | (simp [*]; done)),H',⟨by have:=HJ3.out; have:=HK2.out; have:=HK3.out; omega⟩,⟨by (with_reducible repeat (first | apply Kd.R_alloc | apply Kd.R_drewN | apply Kd.R_drew)); exact Kd.R_mono HO189.out (fun _ hk => ⟨hk.1,⟨hk.2.2.1,hk.2.2.2.1⟩⟩)⟩,⟨by (with_reducible repeat (first | apply Kd.R_alloc | apply Kd.R_drewN | apply Kd.R_drew)); exact Kd.R_mono HO_24.out (fun _ hk => ⟨hk.2,⟨hk.1.2.1,hk.1.2.2.1⟩⟩)⟩,⟨by (with_reducible repeat (first | refine blk_drewN ?_ _ | refine blk_drew ?_ | refine blk_alloc ?_ _)); exact BK175.out⟩,⟨by (with_reducible repeat (first | refine blk_drewN ?_ _ | refine blk_drew ?_ | refine blk_alloc ?_ _)); exact BK181.out⟩,⟨by repeat (first | (with_reducible first | exact HB.out | apply below_alloc | apply pw_below_drewN | apply below_drew1 | refine below_set ?_ GE175.out | refine below_set ?_ GE181.out | refine below_set ?_ GE183.out) | exact HB.out)⟩⟩
             ·rw [if_neg c23] at H
              exact absurd H (by simp)
            ·rw [if_neg c21] at H
             exact absurd H (by simp)
           ·rw [if_neg c20] at H
            exact absurd H (by simp)
          ·rw [if_neg c19] at H
           have c19b0:decide (x26_3 < (x5_2.length:Int)) = false:=decide_eq_false c19
           clear c19
           have H':=Aside0.mk H
           clear H
           go_wp2
           go_roundg k3
           case measure => have:=HJ3.out; have:=HK2.out; have:=HK3.out; omega
           case rel => exact ⟨(x8_3),(wrap64 (x20_2 + 1)),(by first | rfl | (simp; done) | (simp [*]; done)),H',⟨by have:=HJ3.out; have:=HK2.out; have:=HK3.out; omega⟩,⟨by (with_reducible repeat (first | apply Kd.R_alloc | apply Kd.R_drewN | apply Kd.R_drew)); exact Kd.R_mono HO_8.out (fun _ hk => hk.2.1)⟩,⟨by (with_reducible repeat (first | refine blk_drewN ?_ _ | refine blk_drew ?_ | refine blk_alloc ?_ _)); exact BK175.out⟩,⟨by repeat (first | (with_reducible first | exact HB.out | apply below_alloc | apply pw_below_drewN | apply below_drew1 | refine below_set ?_ GE175.out | refine below_set ?_ GE181.out) | exact HB.out)⟩⟩
       ·rw [if_neg c14] at H
        exact absurd H (by simp)
      ·rw [if_neg c13] at H
       exact absurd H (by simp)
     ·rw [if_neg c12] at H
      have c12b0:decide (x20_2 < (l1.length:Int)) = false:=decide_eq_false c12
      clear c12
      obtain rfl:=Option.some.inj H
      go_wp2
      go_ret
      exact ⟨_,by first | rfl | (simp [errW_none,errW_some] <;> rfl) | (simp [*,errW_none,errW_some] <;> rfl),by (with_reducible repeat (first | apply Kd.R_alloc | apply Kd.R_drewN | apply Kd.R_drew)); exact Kd.R_mono HO_5.out (fun _ hk => trivial),by repeat (first | (with_reducible first | exact HB.out | apply below_alloc | apply pw_below_drewN | apply below_drew1 | refine below_set ?_ GE175.out) | exact HB.out)⟩
def cover_Join.l0:Nat → List (S37) → List (S37) → Int → Int → Option ((List (S37)))
 | 0,_,_,_,_ => none
 | k + 1,x3,x6,x7,x8 => if x8 < x7 then (if 0 ≤ x8 then (if x8 < (x6.length:Int) then ((cover_Rest.f k ((rd_T37 x6 x8).f0) ((rd_T37 x6 x8).f1) ((rd_T37 x6 x8).f2) ((rd_T37 x6 x8).f3) x3).bind fun t192 => (if x3.length + t192.length < 4398046511104 then (cover_Join.l0 k (x3 ++ t192) x6 x7 (wrap64 (x8 + 1))) else (none))) else (none)) else (none)) else (some x3)
def cover_Join.f (k:Nat) (l0:List (S37)):Option ((List (S37))):=cover_Join.l0 k ([]:List (S37)) l0 (l0.length:Int) 0
set_option maxHeartbeats 8000000 in
set_option maxRecDepth 100000 in
theorem cover_Join.calls (k:Nat) (A0:Option Addr) (c0:Nat) (l0:List (S37)) (r:List (S37)) (w:World) (hr0:Kd.C k37 w A0 l0.length l0) (hc0:l0.length ≤ c0) (h:cover_Join.f k l0 = some r) :
  Calls Try.prog 44 #[.slice A0 l0.length c0] w fun e w' => ∃ v0_:Value,e = .returned (v0_) ∧ Kd.R k37 37 w' w.heap.size (fun _ => True) v0_ r ∧ Below w.heap.size w w':=by
 have hu37:=Try.underlying37
 have HR0:=Aside0.mk hr0
 have HC0:=Aside0.mk hc0
 clear hr0 hc0
 have HB:=Aside0.mk (Below.refl w.heap.size w)
 have H:(cover_Join.l0 k ([]:List (S37)) l0 (l0.length:Int) 0) = some r:=h
 clear h
 have H':=Aside0.mk H
 clear H
 go_enter Try.func44,Try.ntmps44
 go_wp2
 go_loopg [3,8] k (fun kq v3 v8 w' => ∃ (x3_1:List (S37)) (x8_1:Int),v8 = .int .i64 x8_1 ∧ Aside0 (cover_Join.l0 kq x3_1 l0 (l0.length:Int) x8_1 = some r) ∧ Aside0 (kq ≤ k) ∧ Aside0 (Kd.R k37 37 w' w.heap.size (fun _ => True) v3 x3_1) ∧ Aside0 (Below w.heap.size w w'))
 case atStart => exact ⟨(([]:List (S37))),(0),(by first | rfl | (simp; done) | (simp [*]; done)),H',⟨Nat.le_refl _⟩,⟨by first | exact Kd.R_nil _ _ _ _ _ | exact Kd.N_nil _ _ _ _ _ | exact Kd.V_nil _ _ _ _ _ | exact Kd.Q_nil _ _ _ _ _ | exact Kd.S_nil _ _ _ _ _⟩,⟨by repeat (first | (with_reducible first | exact HB.out | apply below_alloc | apply pw_below_drewN | apply below_drew1) | exact HB.out)⟩⟩
 case round =>
  clear H'
  obtain ⟨x3_1,x8_1,rfl,HA,HK1,HO_3,HB⟩:=hrel
  cases gk with
  | zero => exact absurd HA.out (by simp [cover_Join.l0])
  | succ k1 =>
   have H:=HA.out
   clear HA
   simp only [cover_Join.l0] at H
   by_cases c2:x8_1 < (l0.length:Int)
   ·rw [if_pos c2] at H
    have c2b0:decide (x8_1 < (l0.length:Int)) = true:=decide_eq_true c2
    clear c2
    by_cases c3:0 ≤ x8_1
    ·rw [if_pos c3] at H
     have c3b0:decide (0 ≤ x8_1) = true:=decide_eq_true c3
     clear c3
     by_cases c4:x8_1 < (l0.length:Int)
     ·rw [if_pos c4] at H
      have c4b0:decide (x8_1 < (l0.length:Int)) = true:=decide_eq_true c4
      clear c4
      replace H:=Option.bind_eq_some_iff.mp H
      obtain ⟨t192,A50,H⟩:=H
      replace H:(if x3_1.length + t192.length < 4398046511104 then (cover_Join.l0 k1 (x3_1 ++ t192) l0 (l0.length:Int) (wrap64 (x8_1 + 1))) else (none)) = some r:=H
      have A5:=Aside0.mk A50
      clear A50
      by_cases c6:x3_1.length + t192.length < 4398046511104
      ·rw [if_pos c6] at H
       have LMc6:=Aside0.mk c6
       clear c6
       obtain ⟨y195,hy195⟩:∃ y_:List (S37),y_ = (x3_1 ++ t192):=⟨_,rfl⟩
       replace H:(cover_Join.l0 k1 y195 l0 (l0.length:Int) (wrap64 (x8_1 + 1))) = some r:=by first | (rw [hy195]; with_reducible exact H) | (have H2_:=(Option.bind_some _ _).symm.trans H; rw [hy195]; with_reducible exact H2_) | (have H2_:=(Option.bind_some _ _).symm.trans H; with_reducible exact H2_) | with_reducible exact H | (rw [hy195]; exact H) | exact H
       have Ny195:=Aside0.mk hy195
       clear hy195
       have H':=Aside0.mk H
       clear H
       have p190:0 ≤ (x8_1:Int):=of_decide_eq_true (by first | (with_reducible assumption) | assumption)
       have q190:x8_1 < (l0.length:Int):=of_decide_eq_true (by first | (with_reducible assumption) | assumption)
       obtain ⟨ad190,e190,hx190_0,hx190_1,hx190_2,hx190_3⟩:=at_T37 HR0.out x8_1 p190 q190
       cases e190
       replace hx190_0:=(HB.out.cell (World.block_lt_of_cell? w _ hx190_0)).trans hx190_0
       replace hx190_1:=(HB.out.cell (World.block_lt_of_cell? w _ hx190_1)).trans hx190_1
       replace hx190_2:=(HB.out.cell (World.block_lt_of_cell? w _ hx190_2)).trans hx190_2
       replace hx190_3:=(HB.out.cell (World.block_lt_of_cell? w _ hx190_3)).trans hx190_3
       replace p190:=eq_true p190
       replace q190:=eq_true q190
       go_wp2_with (first | ((with_reducible refine gate_dst (N:=5) rfl ?_); refine box_event ?hg (N:=5) ?hd (cs:=#[.int .i64 0,.int .i64 0,.int .i64 0,.int .i64 0]) (t:=37) ?hr ?_; (case hd => rfl); (case hg => rfl); (case hr => first | (go_simp; done) | (go_simp; rfl)); intro gb191 hg w7 hbox hb; have n0_:=Aside0.mk (Kd.R_below (Kd.R_elderB (by (with_reducible repeat (first | apply Kd.R_alloc | apply Kd.R_drewN | apply Kd.R_drew)); exact HO_3.out) gb191 (Nat.le_of_eq hg.symm)) hb); have n1_:=Aside0.mk (below_step (by repeat (first | (with_reducible first | exact HB.out | apply below_alloc | apply pw_below_drewN | apply below_drew1) | exact HB.out)) hb); have n2_:=Aside0.mk (hbox); have n3_:=Aside0.mk ((by rw [hg]; exact (below_size (by repeat (first | (with_reducible first | exact HB.out | apply below_alloc | apply pw_below_drewN | apply below_drew1) | exact HB.out))):w.heap.size ≤ gb191)); have n4_:=Aside0.mk ((by rw [hg]; exact (below_size (by repeat (first | (with_reducible first | exact HB.out | apply below_alloc | apply pw_below_drewN | apply below_drew1) | exact HB.out))):w.heap.size ≤ gb191)); clear HO_3; clear HB; have HO_3:=n0_; have HB:=n1_; have BK191:=n2_; have GW191:=n3_; have GE191:=n4_; clear n0_ n1_ n2_ n3_ n4_; clear hb hbox hg; have hcz8_0:w7.cell? ⟨gb191,0,none⟩ = some (.int .i64 0):=(blk_cell BK191.out 0).trans rfl; have hcz8_1:w7.cell? ⟨gb191,1,none⟩ = some (.int .i64 0):=(blk_cell BK191.out 1).trans rfl; have hcz8_2:w7.cell? ⟨gb191,2,none⟩ = some (.int .i64 0):=(blk_cell BK191.out 2).trans rfl; have hcz8_3:w7.cell? ⟨gb191,3,none⟩ = some (.int .i64 0):=(blk_cell BK191.out 3).trans rfl; have hfz8_0:=blk_frozen BK191.out 0; have hfz8_1:=blk_frozen BK191.out 1; have hfz8_2:=blk_frozen BK191.out 2; have hfz8_3:=blk_frozen BK191.out 3; obtain ⟨Ao9,co9,eo9⟩:=Kd.R_slice HO_3.out; subst eo9) | ((with_reducible refine gate_callee (f:=58) rfl ?_); refine goesL_ (some 15) rfl rfl Try.func58 (by kernel_rfl) rfl #[.agg #[.int .i64 ((rd_T37 l0 x8_1).f0),.int .i64 ((rd_T37 l0 x8_1).f1),.int .i64 ((rd_T37 l0 x8_1).f2),.int .i64 ((rd_T37 l0 x8_1).f3)],.slice Ao9 x3_1.length co9] rfl (by (try simp only [List.map_toArray,List.map_cons,List.map_nil]); first | done | rfl | (simp only [List.length_drop,List.length_take]; rfl)) ?_; (with_reducible refine (cover_Rest.calls k1 ((rd_T37 l0 x8_1).f0) ((rd_T37 l0 x8_1).f1) ((rd_T37 l0 x8_1).f2) ((rd_T37 l0 x8_1).f3) _ _ x3_1 t192 _ ?side1 ?side2 A5.out).mono ?_); (case side1 => refine (Kd.R_reads' (e:=37) (base:=w.heap.size) (ok:=fun k_ => (True ∧ k_ ≠ gb191)) (n:=x3_1.length) (c:=co9) ?_).2.2; exact (by (with_reducible repeat (first | apply Kd.R_alloc | apply Kd.R_drewN | apply Kd.R_drew)); exact (Kd.R_mono (Kd.R_far (p:=⟨gb191,3,none⟩) (Kd.R_far (p:=⟨gb191,2,none⟩) (Kd.R_far (p:=⟨gb191,1,none⟩) (Kd.R_far (p:=⟨gb191,0,none⟩) (Kd.R_mono HO_3.out (fun k_ hk => (⟨hk,hk.2⟩:_ ∧ k_ ≠ gb191))) (fun _ hk => hk.2) (.int .i64 ((rd_T37 l0 x8_1).f0))) (fun _ hk => hk.2) (.int .i64 ((rd_T37 l0 x8_1).f1))) (fun _ hk => hk.2) (.int .i64 ((rd_T37 l0 x8_1).f2))) (fun _ hk => hk.2) (.int .i64 ((rd_T37 l0 x8_1).f3))) (fun _ h_ => h_.1)))); (case side2 => exact (Kd.R_reads' HO_3.out).2.1); rintro e w10 ⟨v193,rfl,ho0,hb⟩; refine ⟨_,rfl,?_⟩; have n0_:=Aside0.mk (Kd.R_elder' (by (with_reducible repeat (first | apply Kd.R_alloc | apply Kd.R_drewN | apply Kd.R_drew)); exact (Kd.R_mono (Kd.R_far (p:=⟨gb191,3,none⟩) (Kd.R_far (p:=⟨gb191,2,none⟩) (Kd.R_far (p:=⟨gb191,1,none⟩) (Kd.R_far (p:=⟨gb191,0,none⟩) (Kd.R_mono HO_3.out (fun k_ hk => (⟨hk,hk.2⟩:_ ∧ k_ ≠ gb191))) (fun _ hk => hk.2) (.int .i64 ((rd_T37 l0 x8_1).f0))) (fun _ hk => hk.2) (.int .i64 ((rd_T37 l0 x8_1).f1))) (fun _ hk => hk.2) (.int .i64 ((rd_T37 l0 x8_1).f2))) (fun _ hk => hk.2) (.int .i64 ((rd_T37 l0 x8_1).f3))) (fun _ h_ => h_.1))) (Kd.R_base ho0) hb); have n1_:=Aside0.mk (Kd.R_lower (Kd.R_newB (Kd.R_new' ho0 (Kd.R_lt (by (with_reducible repeat (first | apply Kd.R_alloc | apply Kd.R_drewN | apply Kd.R_drew)); exact (Kd.R_mono (Kd.R_far (p:=⟨gb191,3,none⟩) (Kd.R_far (p:=⟨gb191,2,none⟩) (Kd.R_far (p:=⟨gb191,1,none⟩) (Kd.R_far (p:=⟨gb191,0,none⟩) (Kd.R_mono HO_3.out (fun k_ hk => (⟨hk,hk.2⟩:_ ∧ k_ ≠ gb191))) (fun _ hk => hk.2) (.int .i64 ((rd_T37 l0 x8_1).f0))) (fun _ hk => hk.2) (.int .i64 ((rd_T37 l0 x8_1).f1))) (fun _ hk => hk.2) (.int .i64 ((rd_T37 l0 x8_1).f2))) (fun _ hk => hk.2) (.int .i64 ((rd_T37 l0 x8_1).f3))) (fun _ h_ => h_.1))))) (g:=gb191) (o:=.cells #[.int .i64 ((rd_T37 l0 x8_1).f0),.int .i64 ((rd_T37 l0 x8_1).f1),.int .i64 ((rd_T37 l0 x8_1).f2),.int .i64 ((rd_T37 l0 x8_1).f3)] 37 (0,0)) (by (with_reducible repeat (first | refine blk_drewN ?_ _ | refine blk_drew ?_ | refine blk_alloc ?_ _)); refine blk_put (cs:=#[.int .i64 ((rd_T37 l0 x8_1).f0),.int .i64 ((rd_T37 l0 x8_1).f1),.int .i64 ((rd_T37 l0 x8_1).f2),.int .i64 0]) ?_ 3 _ rfl; (with_reducible repeat (first | refine blk_drewN ?_ _ | refine blk_drew ?_ | refine blk_alloc ?_ _)); refine blk_put (cs:=#[.int .i64 ((rd_T37 l0 x8_1).f0),.int .i64 ((rd_T37 l0 x8_1).f1),.int .i64 0,.int .i64 0]) ?_ 2 _ rfl; (with_reducible repeat (first | refine blk_drewN ?_ _ | refine blk_drew ?_ | refine blk_alloc ?_ _)); refine blk_put (cs:=#[.int .i64 ((rd_T37 l0 x8_1).f0),.int .i64 0,.int .i64 0,.int .i64 0]) ?_ 1 _ rfl; (with_reducible repeat (first | refine blk_drewN ?_ _ | refine blk_drew ?_ | refine blk_alloc ?_ _)); refine blk_put (cs:=#[.int .i64 0,.int .i64 0,.int .i64 0,.int .i64 0]) ?_ 0 _ rfl; (with_reducible repeat (first | refine blk_drewN ?_ _ | refine blk_drew ?_ | refine blk_alloc ?_ _)); exact BK191.out)) (below_size (by repeat (first | (with_reducible first | exact HB.out | apply below_alloc | apply pw_below_drewN | apply below_drew1 | refine below_set ?_ GE191.out) | exact HB.out)))); have n2_:=Aside0.mk (blk_below (g:=gb191) (o:=.cells #[.int .i64 ((rd_T37 l0 x8_1).f0),.int .i64 ((rd_T37 l0 x8_1).f1),.int .i64 ((rd_T37 l0 x8_1).f2),.int .i64 ((rd_T37 l0 x8_1).f3)] 37 (0,0)) (by (with_reducible repeat (first | refine blk_drewN ?_ _ | refine blk_drew ?_ | refine blk_alloc ?_ _)); refine blk_put (cs:=#[.int .i64 ((rd_T37 l0 x8_1).f0),.int .i64 ((rd_T37 l0 x8_1).f1),.int .i64 ((rd_T37 l0 x8_1).f2),.int .i64 0]) ?_ 3 _ rfl; (with_reducible repeat (first | refine blk_drewN ?_ _ | refine blk_drew ?_ | refine blk_alloc ?_ _)); refine blk_put (cs:=#[.int .i64 ((rd_T37 l0 x8_1).f0),.int .i64 ((rd_T37 l0 x8_1).f1),.int .i64 0,.int .i64 0]) ?_ 2 _ rfl; (with_reducible repeat (first | refine blk_drewN ?_ _ | refine blk_drew ?_ | refine blk_alloc ?_ _)); refine blk_put (cs:=#[.int .i64 ((rd_T37 l0 x8_1).f0),.int .i64 0,.int .i64 0,.int .i64 0]) ?_ 1 _ rfl; (with_reducible repeat (first | refine blk_drewN ?_ _ | refine blk_drew ?_ | refine blk_alloc ?_ _)); refine blk_put (cs:=#[.int .i64 0,.int .i64 0,.int .i64 0,.int .i64 0]) ?_ 0 _ rfl; (with_reducible repeat (first | refine blk_drewN ?_ _ | refine blk_drew ?_ | refine blk_alloc ?_ _)); exact BK191.out) hb); have n3_:=Aside0.mk (below_step (by repeat (first | (with_reducible first | exact HB.out | apply below_alloc | apply pw_below_drewN | apply below_drew1 | refine below_set ?_ GE191.out) | exact HB.out)) hb); clear HO_3; clear BK191; clear HB; have HO_3:=n0_; have HO194:=n1_; have BK191:=n2_; have HB:=n3_; clear n0_ n1_ n2_ n3_; (try clear hb); (try clear hb2); (try clear hk); (try clear hi); (try clear ho0); obtain ⟨Ao12,co12,eo12⟩:=Kd.R_slice HO194.out; subst eo12) | ((with_reducible refine gate_builtin (b:=.append) (xs:=#[.tmp 12,.tmp 15]) rfl ?_); at_builtin; refine Kd.R_append_rows k37 (w0:=w) w.heap.size rfl (.tmp 12) (.tmp 15) 29 37 (.agg #[(.int .i64 0),(.int .i64 0),(.int .i64 0),(.int .i64 0)]) 32 rfl Try.underlying29 info37 rfl (by decide) (by omega) (.slice Ao9 x3_1.length co9) x3_1 t192 _ _ _ (fun k_ => some k_ ≠ (.slice Ao12 t192.length co12:Value).ownBlock ∧ k_ ≠ gb191) (fun _ => False) rfl rfl ?aO ?aR (fun _ _ h => h) (fun _ h => h.elim) ?aF ?aB ?aS ?aL ?_; (case aR => repeat (first | exact (Kd.R_reads' HO194.out).2.2 | (with_reducible refine Kd.C_alloc ?_ _) | (with_reducible refine Kd.C_drewN ?_ _) | (with_reducible refine Kd.C_drew ?_))); (case aB => exact (by repeat (first | (with_reducible first | exact HB.out | apply below_alloc | apply pw_below_drewN | apply below_drew1 | refine below_set ?_ GE191.out) | exact HB.out))); (case aF => exact (fun k_ hk => ⟨Kd.fresh' (Kd.R_lt (by (with_reducible repeat (first | apply Kd.R_alloc | apply Kd.R_drewN | apply Kd.R_drew)); exact HO194.out)) k_ hk,Kd.freshB (g:=gb191) (o:=.cells #[.int .i64 ((rd_T37 l0 x8_1).f0),.int .i64 ((rd_T37 l0 x8_1).f1),.int .i64 ((rd_T37 l0 x8_1).f2),.int .i64 ((rd_T37 l0 x8_1).f3)] 37 (0,0)) (by (with_reducible repeat (first | refine blk_drewN ?_ _ | refine blk_drew ?_ | refine blk_alloc ?_ _)); exact BK191.out) k_ hk⟩)); (case aO => exact (by (with_reducible repeat (first | apply Kd.R_alloc | apply Kd.R_drewN | apply Kd.R_drew)); exact Kd.R_mono HO_3.out (fun _ hk => ⟨hk.2,hk.1.2⟩))); (case aS => exact (below_size (by repeat (first | (with_reducible first | exact HB.out | apply below_alloc | apply pw_below_drewN | apply below_drew1 | refine below_set ?_ GE191.out) | exact HB.out)))); (case aL => have:=LMc6.out; omega); intro v196 w11 ho hb hg hat; rw [← Ny195.out] at ho; have n0_:=Aside0.mk (blk_grown (g:=gb191) (o:=.cells #[.int .i64 ((rd_T37 l0 x8_1).f0),.int .i64 ((rd_T37 l0 x8_1).f1),.int .i64 ((rd_T37 l0 x8_1).f2),.int .i64 ((rd_T37 l0 x8_1).f3)] 37 (0,0)) (by (with_reducible repeat (first | refine blk_drewN ?_ _ | refine blk_drew ?_ | refine blk_alloc ?_ _)); exact BK191.out) hg (Kd.R_away HO_3.out (fun _ hk => hk.1.2))); have n1_:=Aside0.mk (Kd.R_after (ok:=(fun k_ => k_ ≠ gb191)) (by (with_reducible repeat (first | apply Kd.R_alloc | apply Kd.R_drewN | apply Kd.R_drew)); exact Kd.R_mono HO194.out (fun _ hk => ⟨hk.2,hk.1.2⟩)) hg hat); have n2_:=Aside0.mk (hb); have n3_:=Aside0.mk (ho); clear BK191; clear HO194; clear HB; clear HO_3; have BK191:=n0_; have HO194:=n1_; have HB:=n2_; have HO197:=n3_; clear n0_ n1_ n2_ n3_; clear ho hb hg hat))
       go_roundg k1
       case measure => have:=HK1.out; omega
       case rel => exact ⟨(y195),(wrap64 (x8_1 + 1)),(by first | rfl | (simp; done) | (simp [*]; done)),H',⟨by have:=HK1.out; omega⟩,⟨by (with_reducible repeat (first | apply Kd.R_alloc | apply Kd.R_drewN | apply Kd.R_drew)); exact Kd.R_mono HO197.out (fun _ hk => trivial)⟩,⟨by repeat (first | (with_reducible first | exact HB.out | apply below_alloc | apply pw_below_drewN | apply below_drew1 | refine below_set ?_ GE191.out) | exact HB.out)⟩⟩
      ·rw [if_neg c6] at H
       exact absurd H (by simp)
     ·rw [if_neg c4] at H
      exact absurd H (by simp)
    ·rw [if_neg c3] at H
     exact absurd H (by simp)
   ·rw [if_neg c2] at H
    have c2b0:decide (x8_1 < (l0.length:Int)) = false:=decide_eq_false c2
    clear c2
    obtain rfl:=Option.some.inj H
    go_wp2
    go_ret
    exact ⟨_,by first | rfl | (simp [errW_none,errW_some] <;> rfl) | (simp [*,errW_none,errW_some] <;> rfl),by (with_reducible repeat (first | apply Kd.R_alloc | apply Kd.R_drewN | apply Kd.R_drew)); exact HO_3.out,by repeat (first | (with_reducible first | exact HB.out | apply below_alloc | apply pw_below_drewN | apply below_drew1) | exact HB.out)⟩
end Go.Proofs.Ytppklhfiajjhmaa.PPT
end
section
namespace Go.Proofs.Ytppklhfiajjhmaa.PPT
open Go.RowKit Go.Proofs.YtppklhfiajjhmaaW.PrintWords Go.Proofs.YtppklhfiajjhmaaW.PrintLast Go.Proofs.YtppklhfiajjhmaaW.PrintMore
attribute [local go_sem] max2_int min2_int max_two min_two max_three min_three max_four min_four   -- for this text's walks alone
set_option linter.unusedVariables false
set_option linter.unusedSimpArgs false
attribute [local go_sem high] eqA37
def harm_Alike.f (a0_0:Int) (a0_1:Int) (a0_2:Int) (a0_3:Int) (a0_4:Int) (a0_5:Int) (a0_6:Int) (a0_7:Int) (a0_8:Int) (a0_9:Int) (a0_10:Int) (a0_11:Int) (a0_12:Int) (a0_13:Int) (a0_14:Int) (a1_0:Int) (a1_1:Int) (a1_2:Int) (a1_3:Int) (a1_4:Int) (a1_5:Int) (a1_6:Int) (a1_7:Int) (a1_8:Int) (a1_9:Int) (a1_10:Int) (a1_11:Int) (a1_12:Int) (a1_13:Int) (a1_14:Int):Option (Bool):=if (a0_2 == a1_2 && (a0_3 == a1_3 && (a0_4 == a1_4 && (a0_5 == a1_5)))) = true then (if (a0_6 == a1_6 && (a0_7 == a1_7 && (a0_8 == a1_8 && (a0_9 == a1_9)))) = true then (if (a0_10 == a1_10 && (a0_11 == a1_11 && (a0_12 == a1_12 && (a0_13 == a1_13)))) = true then (if a0_1 = a1_1 then (some (a0_14 == a1_14)) else (some false)) else (some false)) else (some false)) else (some false)
set_option maxHeartbeats 8000000 in
set_option maxRecDepth 100000 in
open Y in
theorem slim_harm_Alike_ {a0_0:Int} {a0_1:Int} {a0_2:Int} {a0_3:Int} {a0_4:Int} {a0_5:Int} {a0_6:Int} {a0_7:Int} {a0_8:Int} {a0_9:Int} {a0_10:Int} {a0_11:Int} {a0_12:Int} {a0_13:Int} {a0_14:Int} {a1_0:Int} {a1_1:Int} {a1_2:Int} {a1_3:Int} {a1_4:Int} {a1_5:Int} {a1_6:Int} {a1_7:Int} {a1_8:Int} {a1_9:Int} {a1_10:Int} {a1_11:Int} {a1_12:Int} {a1_13:Int} {a1_14:Int} {r:Bool} (h:harm_Alike.f a0_0 a0_1 a0_2 a0_3 a0_4 a0_5 a0_6 a0_7 a0_8 a0_9 a0_10 a0_11 a0_12 a0_13 a0_14 a1_0 a1_1 a1_2 a1_3 a1_4 a1_5 a1_6 a1_7 a1_8 a1_9 a1_10 a1_11 a1_12 a1_13 a1_14 = some r):((bif a0_2 == a1_2 && (a0_3 == a1_3 && (a0_4 == a1_4 && (a0_5 == a1_5 && true))) then bif a0_6 == a1_6 && (a0_7 == a1_7 && (a0_8 == a1_8 && (a0_9 == a1_9 && true))) then bif a0_10 == a1_10 && (a0_11 == a1_11 && (a0_12 == a1_12 && (a0_13 == a1_13 && true))) then bif a0_1 == a1_1 then some (MV.val (Value.bool (a0_14 == a1_14)),[]) else some (MV.val (Value.bool false),[]) else some (MV.val (Value.bool false),[]) else some (MV.val (Value.bool false),[]) else some (MV.val (Value.bool false),[]):Option Out)) = some (MV.val (.bool r),[]):=by
 refine Eq.trans (b:=(harm_Alike.f a0_0 a0_1 a0_2 a0_3 a0_4 a0_5 a0_6 a0_7 a0_8 a0_9 a0_10 a0_11 a0_12 a0_13 a0_14 a1_0 a1_1 a1_2 a1_3 a1_4 a1_5 a1_6 a1_7 a1_8 a1_9 a1_10 a1_11 a1_12 a1_13 a1_14).map fun q => (MV.val (.bool q),[])) ?_ (by rw [h]; rfl)
 simp only [harm_Alike.f,SlPT.slim_bi,SlPT.slim_mi,Option.bind_some,Option.map_some,Bool.cond_eq_ite,decide_eq_true_eq,beq_iff_eq,bne_iff_ne,ne_eq,ite_not,Bool.and_eq_true,and_true,Bool.false_eq_true,if_false,if_true,i64_w,Bool.not_false,Bool.not_true,Int.zero_sub,Bool.not_eq_true',decide_eq_false_iff_not,Option.map_none] <;> (try simp only [mx,mn]) <;> rfl
theorem harm_Alike.calls (a0_0:Int) (a0_1:Int) (a0_2:Int) (a0_3:Int) (a0_4:Int) (a0_5:Int) (a0_6:Int) (a0_7:Int) (a0_8:Int) (a0_9:Int) (a0_10:Int) (a0_11:Int) (a0_12:Int) (a0_13:Int) (a0_14:Int) (a1_0:Int) (a1_1:Int) (a1_2:Int) (a1_3:Int) (a1_4:Int) (a1_5:Int) (a1_6:Int) (a1_7:Int) (a1_8:Int) (a1_9:Int) (a1_10:Int) (a1_11:Int) (a1_12:Int) (a1_13:Int) (a1_14:Int) (r:Bool) (w:World) (h:harm_Alike.f a0_0 a0_1 a0_2 a0_3 a0_4 a0_5 a0_6 a0_7 a0_8 a0_9 a0_10 a0_11 a0_12 a0_13 a0_14 a1_0 a1_1 a1_2 a1_3 a1_4 a1_5 a1_6 a1_7 a1_8 a1_9 a1_10 a1_11 a1_12 a1_13 a1_14 = some r) :
  Calls Try.prog 24 #[.agg #[.int .i64 a0_0,.int .i64 a0_1,.int .i64 a0_2,.int .i64 a0_3,.int .i64 a0_4,.int .i64 a0_5,.int .i64 a0_6,.int .i64 a0_7,.int .i64 a0_8,.int .i64 a0_9,.int .i64 a0_10,.int .i64 a0_11,.int .i64 a0_12,.int .i64 a0_13,.int .i64 a0_14],.agg #[.int .i64 a1_0,.int .i64 a1_1,.int .i64 a1_2,.int .i64 a1_3,.int .i64 a1_4,.int .i64 a1_5,.int .i64 a1_6,.int .i64 a1_7,.int .i64 a1_8,.int .i64 a1_9,.int .i64 a1_10,.int .i64 a1_11,.int .i64 a1_12,.int .i64 a1_13,.int .i64 a1_14]] w fun e w' => e = .returned (.bool r) ∧ Below w.heap.size w w':=by
 have hx:Y.xfun Try.prog SlPT.E SlPT.C53 3 24 [Y.MV.agg [Y.MV.val (.int .i64 a0_0),Y.MV.val (.int .i64 a0_1),Y.MV.val (.int .i64 a0_2),Y.MV.val (.int .i64 a0_3),Y.MV.val (.int .i64 a0_4),Y.MV.val (.int .i64 a0_5),Y.MV.val (.int .i64 a0_6),Y.MV.val (.int .i64 a0_7),Y.MV.val (.int .i64 a0_8),Y.MV.val (.int .i64 a0_9),Y.MV.val (.int .i64 a0_10),Y.MV.val (.int .i64 a0_11),Y.MV.val (.int .i64 a0_12),Y.MV.val (.int .i64 a0_13),Y.MV.val (.int .i64 a0_14)],Y.MV.agg [Y.MV.val (.int .i64 a1_0),Y.MV.val (.int .i64 a1_1),Y.MV.val (.int .i64 a1_2),Y.MV.val (.int .i64 a1_3),Y.MV.val (.int .i64 a1_4),Y.MV.val (.int .i64 a1_5),Y.MV.val (.int .i64 a1_6),Y.MV.val (.int .i64 a1_7),Y.MV.val (.int .i64 a1_8),Y.MV.val (.int .i64 a1_9),Y.MV.val (.int .i64 a1_10),Y.MV.val (.int .i64 a1_11),Y.MV.val (.int .i64 a1_12),Y.MV.val (.int .i64 a1_13),Y.MV.val (.int .i64 a1_14)]] [] Y.fin = some (Y.MV.val (.bool r),[]):=by
  rw [SlPT.nf24]
  exact slim_harm_Alike_ h
 refine (Y.call_of SlPT.E_ok SlPT.C53_ok (fun _ _ _ => trivial) SlPT.mixed rfl rfl hx w).mono ?_
 rintro e w' ⟨rfl,hB⟩
 exact ⟨rfl,hB⟩
def owner_Seen.f (a0_0:Int) (a0_1:Int) (a0_2:Int) (a0_3:Int) (a0_4:Int) (a0_5:Int) (a0_6:Int) (a0_7:Int) (a0_8:Int) (a0_9:Int) (a0_10:Int) (a0_11:Int) (a0_12:Int) (a0_13:Int) (a0_14:Int):Option (Int × Int × Int × Int):=(rect_Meet.f a0_2 a0_3 a0_4 a0_5 a0_10 a0_11 a0_12 a0_13).bind fun bt202 => (some (bt202.1,bt202.2.1,bt202.2.2.1,bt202.2.2.2))
set_option maxHeartbeats 8000000 in
set_option maxRecDepth 100000 in
open Y in
theorem slim_owner_Seen_ {a0_0:Int} {a0_1:Int} {a0_2:Int} {a0_3:Int} {a0_4:Int} {a0_5:Int} {a0_6:Int} {a0_7:Int} {a0_8:Int} {a0_9:Int} {a0_10:Int} {a0_11:Int} {a0_12:Int} {a0_13:Int} {a0_14:Int} {r1:Int} {r2:Int} {r3:Int} {r4:Int} (h:owner_Seen.f a0_0 a0_1 a0_2 a0_3 a0_4 a0_5 a0_6 a0_7 a0_8 a0_9 a0_10 a0_11 a0_12 a0_13 a0_14 = some (r1,r2,r3,r4)):((bif decide ((if a0_2 < a0_10 then a0_10 else a0_2) ≥ if a0_12 < a0_4 then a0_12 else a0_4) then some (MV.agg [MV.val (Value.int IntKind.i64 0),MV.val (Value.int IntKind.i64 0),MV.val (Value.int IntKind.i64 0),MV.val (Value.int IntKind.i64 0)],[]) else bif decide ((if a0_3 < a0_11 then a0_11 else a0_3) ≥ if a0_13 < a0_5 then a0_13 else a0_5) then some (MV.agg [MV.val (Value.int IntKind.i64 0),MV.val (Value.int IntKind.i64 0),MV.val (Value.int IntKind.i64 0),MV.val (Value.int IntKind.i64 0)],[]) else some (MV.agg [MV.val (Value.int IntKind.i64 (if a0_2 < a0_10 then a0_10 else a0_2)),MV.val (Value.int IntKind.i64 (if a0_3 < a0_11 then a0_11 else a0_3)),MV.val (Value.int IntKind.i64 (if a0_12 < a0_4 then a0_12 else a0_4)),MV.val (Value.int IntKind.i64 (if a0_13 < a0_5 then a0_13 else a0_5))],[]):Option Out)) = some (MV.agg [MV.val (.int .i64 r1),MV.val (.int .i64 r2),MV.val (.int .i64 r3),MV.val (.int .i64 r4)],[]):=by
 refine Eq.trans (b:=(owner_Seen.f a0_0 a0_1 a0_2 a0_3 a0_4 a0_5 a0_6 a0_7 a0_8 a0_9 a0_10 a0_11 a0_12 a0_13 a0_14).map fun q => (MV.agg [MV.val (.int .i64 q.1),MV.val (.int .i64 q.2.1),MV.val (.int .i64 q.2.2.1),MV.val (.int .i64 q.2.2.2)],[])) ?_ (by rw [h]; rfl)
 simp only [owner_Seen.f,rect_Meet.f,rect_Empty.f,SlPT.slim_bi,SlPT.slim_mi,Option.bind_some,Option.map_some,Bool.cond_eq_ite,decide_eq_true_eq,beq_iff_eq,bne_iff_ne,ne_eq,ite_not,Bool.and_eq_true,and_true,Bool.false_eq_true,if_false,if_true,i64_w,Bool.not_false,Bool.not_true,Int.zero_sub,Bool.not_eq_true',decide_eq_false_iff_not,Option.map_none] <;> (try simp only [mx,mn]) <;> rfl
theorem owner_Seen.calls (a0_0:Int) (a0_1:Int) (a0_2:Int) (a0_3:Int) (a0_4:Int) (a0_5:Int) (a0_6:Int) (a0_7:Int) (a0_8:Int) (a0_9:Int) (a0_10:Int) (a0_11:Int) (a0_12:Int) (a0_13:Int) (a0_14:Int) (r1:Int) (r2:Int) (r3:Int) (r4:Int) (w:World) (h:owner_Seen.f a0_0 a0_1 a0_2 a0_3 a0_4 a0_5 a0_6 a0_7 a0_8 a0_9 a0_10 a0_11 a0_12 a0_13 a0_14 = some (r1,r2,r3,r4)) :
  Calls Try.prog 43 #[.agg #[.int .i64 a0_0,.int .i64 a0_1,.int .i64 a0_2,.int .i64 a0_3,.int .i64 a0_4,.int .i64 a0_5,.int .i64 a0_6,.int .i64 a0_7,.int .i64 a0_8,.int .i64 a0_9,.int .i64 a0_10,.int .i64 a0_11,.int .i64 a0_12,.int .i64 a0_13,.int .i64 a0_14]] w fun e w' => e = .returned (.agg #[.int .i64 r1,.int .i64 r2,.int .i64 r3,.int .i64 r4]) ∧ Below w.heap.size w w':=by
 have hx:Y.xfun Try.prog SlPT.E SlPT.C24 3 43 [Y.MV.agg [Y.MV.val (.int .i64 a0_0),Y.MV.val (.int .i64 a0_1),Y.MV.val (.int .i64 a0_2),Y.MV.val (.int .i64 a0_3),Y.MV.val (.int .i64 a0_4),Y.MV.val (.int .i64 a0_5),Y.MV.val (.int .i64 a0_6),Y.MV.val (.int .i64 a0_7),Y.MV.val (.int .i64 a0_8),Y.MV.val (.int .i64 a0_9),Y.MV.val (.int .i64 a0_10),Y.MV.val (.int .i64 a0_11),Y.MV.val (.int .i64 a0_12),Y.MV.val (.int .i64 a0_13),Y.MV.val (.int .i64 a0_14)]] [] Y.fin = some (Y.MV.agg [Y.MV.val (.int .i64 r1),Y.MV.val (.int .i64 r2),Y.MV.val (.int .i64 r3),Y.MV.val (.int .i64 r4)],[]):=by
  rw [SlPT.nf43]
  exact slim_owner_Seen_ h
 refine (Y.call_of SlPT.E_ok SlPT.C24_ok (fun _ _ _ => trivial) SlPT.mixed rfl rfl hx w).mono ?_
 rintro e w' ⟨rfl,hB⟩
 exact ⟨rfl,hB⟩
def decoupageref28_Right.f (a0_0:Int) (a0_1:Int) (a0_2:Int) (a0_3:Int) (a0_4:Int):Option (Bool):=if a0_3 < 1 then (some false) else (if a0_4 < 1 then (some false) else (if a0_3 > 4096 then (some false) else (if a0_3 = 0 then (none) else (if a0_4 > (wrap64 (Int.tdiv 4096 a0_3)) then (some false) else (if a0_2 ≥ 1 then (if a0_2 ≤ 1099511627776 then (if a0_0 ≥ (-1099511627776) then (if a0_0 ≤ 1099511627776 then (if a0_1 ≥ (-1099511627776) then (some (decide (a0_1 ≤ 1099511627776))) else (some false)) else (some false)) else (some false)) else (some false)) else (some false))))))
set_option maxHeartbeats 8000000 in
set_option maxRecDepth 100000 in
open Y in
theorem slim_decoupageref28_Right_ {a0_0:Int} {a0_1:Int} {a0_2:Int} {a0_3:Int} {a0_4:Int} {r:Bool} (h:decoupageref28_Right.f a0_0 a0_1 a0_2 a0_3 a0_4 = some r):((bif decide (a0_3 < 1) then some (MV.val (Value.bool false),[]) else bif decide (a0_4 < 1) then some (MV.val (Value.bool false),[]) else bif decide (a0_3 > 4096) then some (MV.val (Value.bool false),[]) else bif !decide (a0_3 = 0) then bif decide (a0_4 > IntKind.wrap IntKind.i64 (Int.tdiv 4096 a0_3)) then some (MV.val (Value.bool false),[]) else bif decide (a0_2 ≥ 1) then bif decide (a0_2 ≤ 1099511627776) then bif decide (a0_0 ≥ -1099511627776) then bif decide (a0_0 ≤ 1099511627776) then bif decide (a0_1 ≥ -1099511627776) then some (MV.val (Value.bool (decide (a0_1 ≤ 1099511627776))),[]) else some (MV.val (Value.bool false),[]) else some (MV.val (Value.bool false),[]) else some (MV.val (Value.bool false),[]) else some (MV.val (Value.bool false),[]) else some (MV.val (Value.bool false),[]) else none:Option Out)) = some (MV.val (.bool r),[]):=by
 refine Eq.trans (b:=(decoupageref28_Right.f a0_0 a0_1 a0_2 a0_3 a0_4).map fun q => (MV.val (.bool q),[])) ?_ (by rw [h]; rfl)
 simp only [decoupageref28_Right.f,SlPT.slim_bi,SlPT.slim_mi,Option.bind_some,Option.map_some,Bool.cond_eq_ite,decide_eq_true_eq,beq_iff_eq,bne_iff_ne,ne_eq,ite_not,Bool.and_eq_true,and_true,Bool.false_eq_true,if_false,if_true,i64_w,Bool.not_false,Bool.not_true,Int.zero_sub,Bool.not_eq_true',decide_eq_false_iff_not,Option.map_none] <;> (try simp only [mx,mn]) <;> rfl
theorem decoupageref28_Right.calls (a0_0:Int) (a0_1:Int) (a0_2:Int) (a0_3:Int) (a0_4:Int) (r:Bool) (w:World) (h:decoupageref28_Right.f a0_0 a0_1 a0_2 a0_3 a0_4 = some r) :
  Calls Try.prog 27 #[.agg #[.int .i64 a0_0,.int .i64 a0_1,.int .i64 a0_2,.int .i64 a0_3,.int .i64 a0_4]] w fun e w' => e = .returned (.bool r) ∧ Below w.heap.size w w':=by
 have hx:Y.xfun Try.prog SlPT.E SlPT.C43 3 27 [Y.MV.agg [Y.MV.val (.int .i64 a0_0),Y.MV.val (.int .i64 a0_1),Y.MV.val (.int .i64 a0_2),Y.MV.val (.int .i64 a0_3),Y.MV.val (.int .i64 a0_4)]] [] Y.fin = some (Y.MV.val (.bool r),[]):=by
  rw [SlPT.nf27]
  exact slim_decoupageref28_Right_ h
 refine (Y.call_of SlPT.E_ok SlPT.C43_ok (fun _ _ _ => trivial) SlPT.mixed rfl rfl hx w).mono ?_
 rintro e w' ⟨rfl,hB⟩
 exact ⟨rfl,hB⟩
def decoupagelaw34_same.l0:Nat → List Int → List Int → Int → Int → Option (Bool)
 | 0,_,_,_,_ => none
 | k + 1,x0,x1,x12,x13 => if x13 < x12 then (if 0 ≤ x13 then (if x13 < (x0.length:Int) then (if x13 < (x1.length:Int) then (if (rd x0 x13) = (rd x1 x13) then (decoupagelaw34_same.l0 k x0 x1 x12 (wrap64 (x13 + 1))) else (some false)) else (none)) else (none)) else (none)) else (some true)
def decoupagelaw34_same.f (k:Nat) (l0:List Int) (l1:List Int):Option (Bool):=if (l0.length:Int) = (l1.length:Int) then (decoupagelaw34_same.l0 k l0 l1 (l0.length:Int) 0) else (some false)
set_option maxHeartbeats 8000000 in
set_option maxRecDepth 100000 in
theorem decoupagelaw34_same.calls (k:Nat) (A0:Option Addr) (c0:Nat) (l0:List Int) (A1:Option Addr) (c1:Nat) (l1:List Int) (r:Bool) (w:World) (hr0:Kd.C (Kd.int .i64) w A0 l0.length l0) (hc0:l0.length ≤ c0) (hr1:Kd.C (Kd.int .i64) w A1 l1.length l1) (hc1:l1.length ≤ c1) (h:decoupagelaw34_same.f k l0 l1 = some r) :
  Calls Try.prog 37 #[.slice A0 l0.length c0,.slice A1 l1.length c1] w fun e w' => e = .returned (.bool r) ∧ Drawn0 w w':=by
 have HR0:=Aside0.mk hr0
 have HC0:=Aside0.mk hc0
 clear hr0 hc0
 have HR1:=Aside0.mk hr1
 have HC1:=Aside0.mk hc1
 clear hr1 hc1
 have H:(if (l0.length:Int) = (l1.length:Int) then (decoupagelaw34_same.l0 k l0 l1 (l0.length:Int) 0) else (some false)) = some r:=h
 clear h
 by_cases c3:(l0.length:Int) = (l1.length:Int)
 ·rw [if_pos c3] at H
  have c3b0:((l0.length:Int) == (l1.length:Int)) = true:=beq_iff_eq.mpr c3
  have c3b1:((l0.length:Int) != (l1.length:Int)) = false:=bne_eq_false_iff_eq.mpr c3
  have c3b2:(l0.length == l1.length) = true:=by first | simpa using c3 | (simp at c3 ⊢; omega)
  clear c3
  have H':=Aside0.mk H
  clear H
  go_enter Try.func37,Try.ntmps37
  go_wp2
  repeat (go_quiet (fail); try go_wp2)
  go_loopg [13] k (fun kq v13 w' => ∃ (x13_1:Int),v13 = .int .i64 x13_1 ∧ Aside0 (decoupagelaw34_same.l0 kq l0 l1 (l0.length:Int) x13_1 = some r) ∧ Aside0 (kq ≤ k) ∧ Drawn0 w w')
  case atStart => exact ⟨(0),(by first | rfl | (simp; done) | (simp [*]; done)),H',⟨Nat.le_refl _⟩,by repeat (first | exact Drawn0.refl _ | apply Drawn0.step)⟩
  case round =>
   clear H'
   try clear c1
   try clear p2
   try clear c3
   try clear c3b0
   try clear c3b1
   try clear c3b2
   obtain ⟨x13_1,rfl,HA,HK1,⟨m1,rfl⟩⟩:=hrel
   cases gk with
   | zero => exact absurd HA.out (by simp [decoupagelaw34_same.l0])
   | succ k1 =>
    have H:=HA.out
    clear HA
    simp only [decoupagelaw34_same.l0] at H
    by_cases c4:x13_1 < (l0.length:Int)
    ·rw [if_pos c4] at H
     have c4b0:decide (x13_1 < (l0.length:Int)) = true:=decide_eq_true c4
     clear c4
     by_cases c5:0 ≤ x13_1
     ·rw [if_pos c5] at H
      have c5b0:decide (0 ≤ x13_1) = true:=decide_eq_true c5
      clear c5
      by_cases c6:x13_1 < (l0.length:Int)
      ·rw [if_pos c6] at H
       have c6b0:decide (x13_1 < (l0.length:Int)) = true:=decide_eq_true c6
       clear c6
       by_cases c7:x13_1 < (l1.length:Int)
       ·rw [if_pos c7] at H
        have c7b0:decide (x13_1 < (l1.length:Int)) = true:=decide_eq_true c7
        clear c7
        by_cases c8:(rd l0 x13_1) = (rd l1 x13_1)
        ·rw [if_pos c8] at H
         have c8b0:((rd l0 x13_1) == (rd l1 x13_1)) = true:=beq_iff_eq.mpr c8
         have c8b1:((rd l0 x13_1) != (rd l1 x13_1)) = false:=bne_eq_false_iff_eq.mpr c8
         clear c8
         have H':=Aside0.mk H
         clear H
         have p207:0 ≤ (x13_1:Int):=of_decide_eq_true (by first | (with_reducible assumption) | assumption)
         have q207:x13_1 < (l0.length:Int):=of_decide_eq_true (by first | (with_reducible assumption) | assumption)
         obtain ⟨ad207,e207,hx207_0⟩:=Kd.at_int HR0.out x13_1 p207 q207
         cases e207
         replace p207:=eq_true p207
         replace q207:=eq_true q207
         have p208:0 ≤ (x13_1:Int):=of_decide_eq_true (by first | (with_reducible assumption) | assumption)
         have q208:x13_1 < (l1.length:Int):=of_decide_eq_true (by first | (with_reducible assumption) | assumption)
         obtain ⟨ad208,e208,hx208_0⟩:=Kd.at_int HR1.out x13_1 p208 q208
         cases e208
         replace p208:=eq_true p208
         replace q208:=eq_true q208
         go_wp2
         repeat (go_quiet (fail); try go_wp2)
         go_roundg k1
         case measure => have:=HK1.out; omega
         case rel => exact ⟨(wrap64 (x13_1 + 1)),(by first | rfl | (simp; done) | (simp [*]; done)),H',⟨by have:=HK1.out; omega⟩,by repeat (first | exact Drawn0.refl _ | apply Drawn0.step)⟩
        ·rw [if_neg c8] at H
         have c8b0:((rd l0 x13_1) == (rd l1 x13_1)) = false:=beq_eq_false_iff_ne.mpr c8
         have c8b1:((rd l0 x13_1) != (rd l1 x13_1)) = true:=bne_iff_ne.mpr c8
         obtain rfl:=Option.some.inj H
         have p207:0 ≤ (x13_1:Int):=of_decide_eq_true (by first | (with_reducible assumption) | assumption)
         have q207:x13_1 < (l0.length:Int):=of_decide_eq_true (by first | (with_reducible assumption) | assumption)
         obtain ⟨ad207,e207,hx207_0⟩:=Kd.at_int HR0.out x13_1 p207 q207
         cases e207
         replace p207:=eq_true p207
         replace q207:=eq_true q207
         have p208:0 ≤ (x13_1:Int):=of_decide_eq_true (by first | (with_reducible assumption) | assumption)
         have q208:x13_1 < (l1.length:Int):=of_decide_eq_true (by first | (with_reducible assumption) | assumption)
         obtain ⟨ad208,e208,hx208_0⟩:=Kd.at_int HR1.out x13_1 p208 q208
         cases e208
         replace p208:=eq_true p208
         replace q208:=eq_true q208
         go_wp2
         repeat (go_quiet (fail); try go_wp2)
         go_ret
         exact ⟨by first | rfl | (simp; done) | (simp [*]; done),by repeat (first | exact Drawn0.refl _ | apply Drawn0.step)⟩
       ·rw [if_neg c7] at H
        exact absurd H (by simp)
      ·rw [if_neg c6] at H
       exact absurd H (by simp)
     ·rw [if_neg c5] at H
      exact absurd H (by simp)
    ·rw [if_neg c4] at H
     have c4b0:decide (x13_1 < (l0.length:Int)) = false:=decide_eq_false c4
     clear c4
     obtain rfl:=Option.some.inj H
     go_wp2
     repeat (go_quiet (fail); try go_wp2)
     go_ret
     exact ⟨by first | rfl | (simp; done) | (simp [*]; done),by repeat (first | exact Drawn0.refl _ | apply Drawn0.step)⟩
 ·rw [if_neg c3] at H
  have c3b0:((l0.length:Int) == (l1.length:Int)) = false:=beq_eq_false_iff_ne.mpr c3
  have c3b1:((l0.length:Int) != (l1.length:Int)) = true:=bne_iff_ne.mpr c3
  have c3b2:(l0.length == l1.length) = false:=by first | simpa using c3 | (simp at c3 ⊢; omega)
  obtain rfl:=Option.some.inj H
  go_enter Try.func37,Try.ntmps37
  go_wp2
  repeat (go_quiet (fail); try go_wp2)
  go_ret
  exact ⟨by first | rfl | (simp; done) | (simp [*]; done),by repeat (first | exact Drawn0.refl _ | apply Drawn0.step)⟩
def decoupageref02_Holds.f (a0_0:Int) (a0_1:Int) (a0_2:Int) (a0_3:Int) (a1:Int) (a2:Int):Option (Bool):=if a0_0 ≤ a1 then (if a1 < a0_2 then (if a0_1 ≤ a2 then (some (decide (a2 < a0_3))) else (some false)) else (some false)) else (some false)
set_option maxHeartbeats 8000000 in
set_option maxRecDepth 100000 in
open Y in
theorem slim_decoupageref02_Holds_ {a0_0:Int} {a0_1:Int} {a0_2:Int} {a0_3:Int} {a1:Int} {a2:Int} {r:Bool} (h:decoupageref02_Holds.f a0_0 a0_1 a0_2 a0_3 a1 a2 = some r):((bif decide (a0_0 ≤ a1) then bif decide (a1 < a0_2) then bif decide (a0_1 ≤ a2) then some (MV.val (Value.bool (decide (a2 < a0_3))),[]) else some (MV.val (Value.bool false),[]) else some (MV.val (Value.bool false),[]) else some (MV.val (Value.bool false),[]):Option Out)) = some (MV.val (.bool r),[]):=by
 refine Eq.trans (b:=(decoupageref02_Holds.f a0_0 a0_1 a0_2 a0_3 a1 a2).map fun q => (MV.val (.bool q),[])) ?_ (by rw [h]; rfl)
 simp only [decoupageref02_Holds.f,SlPT.slim_bi,SlPT.slim_mi,Option.bind_some,Option.map_some,Bool.cond_eq_ite,decide_eq_true_eq,beq_iff_eq,bne_iff_ne,ne_eq,ite_not,Bool.and_eq_true,and_true,Bool.false_eq_true,if_false,if_true,i64_w,Bool.not_false,Bool.not_true,Int.zero_sub,Bool.not_eq_true',decide_eq_false_iff_not,Option.map_none] <;> (try simp only [mx,mn]) <;> rfl
theorem decoupageref02_Holds.calls (a0_0:Int) (a0_1:Int) (a0_2:Int) (a0_3:Int) (a1:Int) (a2:Int) (r:Bool) (w:World) (h:decoupageref02_Holds.f a0_0 a0_1 a0_2 a0_3 a1 a2 = some r) :
  Calls Try.prog 47 #[.agg #[.int .i64 a0_0,.int .i64 a0_1,.int .i64 a0_2,.int .i64 a0_3],.int .i64 a1,.int .i64 a2] w fun e w' => e = .returned (.bool r) ∧ Below w.heap.size w w':=by
 have hx:Y.xfun Try.prog SlPT.E SlPT.C27 3 47 [Y.MV.agg [Y.MV.val (.int .i64 a0_0),Y.MV.val (.int .i64 a0_1),Y.MV.val (.int .i64 a0_2),Y.MV.val (.int .i64 a0_3)],Y.MV.val (.int .i64 a1),Y.MV.val (.int .i64 a2)] [] Y.fin = some (Y.MV.val (.bool r),[]):=by
  rw [SlPT.nf47]
  exact slim_decoupageref02_Holds_ h
 refine (Y.call_of SlPT.E_ok SlPT.C27_ok (fun _ _ _ => trivial) SlPT.mixed rfl rfl hx w).mono ?_
 rintro e w' ⟨rfl,hB⟩
 exact ⟨rfl,hB⟩
def decoupageref03_In.l0:Nat → List (S37) → Int → Int → Int → Int → Option (Bool)
 | 0,_,_,_,_,_ => none
 | k + 1,x0,x1,x2,x9,x10 => if x10 < x9 then (if 0 ≤ x10 then (if x10 < (x0.length:Int) then ((decoupageref02_Holds.f ((rd_T37 x0 x10).f0) ((rd_T37 x0 x10).f1) ((rd_T37 x0 x10).f2) ((rd_T37 x0 x10).f3) x1 x2).bind fun t211 => (if t211 = true then (some true) else (decoupageref03_In.l0 k x0 x1 x2 x9 (wrap64 (x10 + 1))))) else (none)) else (none)) else (some false)
def decoupageref03_In.f (k:Nat) (l0:List (S37)) (a1:Int) (a2:Int):Option (Bool):=decoupageref03_In.l0 k l0 a1 a2 (l0.length:Int) 0
set_option maxHeartbeats 8000000 in
set_option maxRecDepth 100000 in
theorem decoupageref03_In.calls (k:Nat) (A0:Option Addr) (c0:Nat) (l0:List (S37)) (a1:Int) (a2:Int) (r:Bool) (w:World) (hr0:Kd.C k37 w A0 l0.length l0) (hc0:l0.length ≤ c0) (h:decoupageref03_In.f k l0 a1 a2 = some r) :
  Calls Try.prog 21 #[.slice A0 l0.length c0,.int .i64 a1,.int .i64 a2] w fun e w' => e = .returned (.bool r) ∧ Below w.heap.size w w':=by
 have hu37:=Try.underlying37
 have HR0:=Aside0.mk hr0
 have HC0:=Aside0.mk hc0
 clear hr0 hc0
 have HB:=Aside0.mk (Below.refl w.heap.size w)
 have H:(decoupageref03_In.l0 k l0 a1 a2 (l0.length:Int) 0) = some r:=h
 clear h
 have H':=Aside0.mk H
 clear H
 go_enter Try.func21,Try.ntmps21
 go_wp2
 go_loopg [10] k (fun kq v10 w' => ∃ (x10_1:Int),v10 = .int .i64 x10_1 ∧ Aside0 (decoupageref03_In.l0 kq l0 a1 a2 (l0.length:Int) x10_1 = some r) ∧ Aside0 (kq ≤ k) ∧ Aside0 (Below w.heap.size w w'))
 case atStart => exact ⟨(0),(by first | rfl | (simp; done) | (simp [*]; done)),H',⟨Nat.le_refl _⟩,⟨by repeat (first | (with_reducible first | exact HB.out | apply below_alloc | apply pw_below_drewN | apply below_drew1) | exact HB.out)⟩⟩
 case round =>
  clear H'
  try clear c2
  try clear p2
  obtain ⟨x10_1,rfl,HA,HK1,HB⟩:=hrel
  cases gk with
  | zero => exact absurd HA.out (by simp [decoupageref03_In.l0])
  | succ k1 =>
   have H:=HA.out
   clear HA
   simp only [decoupageref03_In.l0] at H
   by_cases c4:x10_1 < (l0.length:Int)
   ·rw [if_pos c4] at H
    have c4b0:decide (x10_1 < (l0.length:Int)) = true:=decide_eq_true c4
    clear c4
    by_cases c5:0 ≤ x10_1
    ·rw [if_pos c5] at H
     have c5b0:decide (0 ≤ x10_1) = true:=decide_eq_true c5
     clear c5
     by_cases c6:x10_1 < (l0.length:Int)
     ·rw [if_pos c6] at H
      have c6b0:decide (x10_1 < (l0.length:Int)) = true:=decide_eq_true c6
      clear c6
      replace H:=Option.bind_eq_some_iff.mp H
      obtain ⟨t211,A70,H⟩:=H
      replace H:(if t211 = true then (some true) else (decoupageref03_In.l0 k1 l0 a1 a2 (l0.length:Int) (wrap64 (x10_1 + 1)))) = some r:=H
      have A7:=Aside0.mk A70
      clear A70
      by_cases c8:t211 = true
      ·subst c8
       have H1:(some true) = some r:=by rw [if_pos rfl] at H; exact H
       clear H
       have H:=H1
       clear H1
       obtain rfl:=Option.some.inj H
       have p210:0 ≤ (x10_1:Int):=of_decide_eq_true (by first | (with_reducible assumption) | assumption)
       have q210:x10_1 < (l0.length:Int):=of_decide_eq_true (by first | (with_reducible assumption) | assumption)
       obtain ⟨ad210,e210,hx210_0,hx210_1,hx210_2,hx210_3⟩:=at_T37 HR0.out x10_1 p210 q210
       cases e210
       replace hx210_0:=(HB.out.cell (World.block_lt_of_cell? w _ hx210_0)).trans hx210_0
       replace hx210_1:=(HB.out.cell (World.block_lt_of_cell? w _ hx210_1)).trans hx210_1
       replace hx210_2:=(HB.out.cell (World.block_lt_of_cell? w _ hx210_2)).trans hx210_2
       replace hx210_3:=(HB.out.cell (World.block_lt_of_cell? w _ hx210_3)).trans hx210_3
       replace p210:=eq_true p210
       replace q210:=eq_true q210
       go_wp2_with (first | ((with_reducible refine gate_callee (f:=47) rfl ?_); refine goesL_ (some 19) rfl rfl Try.func47 (by kernel_rfl) rfl #[.agg #[.int .i64 ((rd_T37 l0 x10_1).f0),.int .i64 ((rd_T37 l0 x10_1).f1),.int .i64 ((rd_T37 l0 x10_1).f2),.int .i64 ((rd_T37 l0 x10_1).f3)],.int .i64 a1,.int .i64 a2] rfl (by (try simp only [List.map_toArray,List.map_cons,List.map_nil]); first | done | rfl | (simp only [List.length_drop,List.length_take]; rfl)) ?_; (with_reducible refine (decoupageref02_Holds.calls ((rd_T37 l0 x10_1).f0) ((rd_T37 l0 x10_1).f1) ((rd_T37 l0 x10_1).f2) ((rd_T37 l0 x10_1).f3) a1 a2 true _ A7.out).mono ?_); rintro e w9 ⟨rfl,hb⟩; refine ⟨_,rfl,?_⟩; have n0_:=Aside0.mk (below_step (by repeat (first | (with_reducible first | exact HB.out | apply below_alloc | apply pw_below_drewN | apply below_drew1) | exact HB.out)) hb); clear HB; have HB:=n0_; clear n0_; (try clear hb); (try clear hb2); (try clear hk); (try clear hi)))
       go_ret
       exact ⟨by first | rfl | (simp [errW_none,errW_some] <;> rfl) | (simp [*,errW_none,errW_some] <;> rfl),by repeat (first | (with_reducible first | exact HB.out | apply below_alloc | apply pw_below_drewN | apply below_drew1) | exact HB.out)⟩
      ·replace c8:=Bool.eq_false_iff.mpr c8
       subst c8
       have H1:(decoupageref03_In.l0 k1 l0 a1 a2 (l0.length:Int) (wrap64 (x10_1 + 1))) = some r:=by rw [if_neg (show ¬ (false = true) by decide)] at H; exact H
       clear H
       have H:=H1
       clear H1
       have H':=Aside0.mk H
       clear H
       have p210:0 ≤ (x10_1:Int):=of_decide_eq_true (by first | (with_reducible assumption) | assumption)
       have q210:x10_1 < (l0.length:Int):=of_decide_eq_true (by first | (with_reducible assumption) | assumption)
       obtain ⟨ad210,e210,hx210_0,hx210_1,hx210_2,hx210_3⟩:=at_T37 HR0.out x10_1 p210 q210
       cases e210
       replace hx210_0:=(HB.out.cell (World.block_lt_of_cell? w _ hx210_0)).trans hx210_0
       replace hx210_1:=(HB.out.cell (World.block_lt_of_cell? w _ hx210_1)).trans hx210_1
       replace hx210_2:=(HB.out.cell (World.block_lt_of_cell? w _ hx210_2)).trans hx210_2
       replace hx210_3:=(HB.out.cell (World.block_lt_of_cell? w _ hx210_3)).trans hx210_3
       replace p210:=eq_true p210
       replace q210:=eq_true q210
       go_wp2_with (first | ((with_reducible refine gate_callee (f:=47) rfl ?_); refine goesL_ (some 19) rfl rfl Try.func47 (by kernel_rfl) rfl #[.agg #[.int .i64 ((rd_T37 l0 x10_1).f0),.int .i64 ((rd_T37 l0 x10_1).f1),.int .i64 ((rd_T37 l0 x10_1).f2),.int .i64 ((rd_T37 l0 x10_1).f3)],.int .i64 a1,.int .i64 a2] rfl (by (try simp only [List.map_toArray,List.map_cons,List.map_nil]); first | done | rfl | (simp only [List.length_drop,List.length_take]; rfl)) ?_; (with_reducible refine (decoupageref02_Holds.calls ((rd_T37 l0 x10_1).f0) ((rd_T37 l0 x10_1).f1) ((rd_T37 l0 x10_1).f2) ((rd_T37 l0 x10_1).f3) a1 a2 false _ A7.out).mono ?_); rintro e w10 ⟨rfl,hb⟩; refine ⟨_,rfl,?_⟩; have n0_:=Aside0.mk (below_step (by repeat (first | (with_reducible first | exact HB.out | apply below_alloc | apply pw_below_drewN | apply below_drew1) | exact HB.out)) hb); clear HB; have HB:=n0_; clear n0_; (try clear hb); (try clear hb2); (try clear hk); (try clear hi)))
       go_roundg k1
       case measure => have:=HK1.out; omega
       case rel => exact ⟨(wrap64 (x10_1 + 1)),(by first | rfl | (simp; done) | (simp [*]; done)),H',⟨by have:=HK1.out; omega⟩,⟨by repeat (first | (with_reducible first | exact HB.out | apply below_alloc | apply pw_below_drewN | apply below_drew1) | exact HB.out)⟩⟩
     ·rw [if_neg c6] at H
      exact absurd H (by simp)
    ·rw [if_neg c5] at H
     exact absurd H (by simp)
   ·rw [if_neg c4] at H
    have c4b0:decide (x10_1 < (l0.length:Int)) = false:=decide_eq_false c4
    clear c4
    obtain rfl:=Option.some.inj H
    go_wp2
    go_ret
    exact ⟨by first | rfl | (simp [errW_none,errW_some] <;> rfl) | (simp [*,errW_none,errW_some] <;> rfl),by repeat (first | (with_reducible first | exact HB.out | apply below_alloc | apply pw_below_drewN | apply below_drew1) | exact HB.out)⟩
def decoupageref26_Shows.f (a0_0:Int) (a0_1:Int) (a0_2:Int) (a0_3:Int) (a0_4:Int) (a0_5:Int) (a0_6:Int) (a0_7:Int) (a0_8:Int) (a0_9:Int) (a0_10:Int) (a0_11:Int) (a0_12:Int) (a0_13:Int) (a0_14:Int) (a1:Int) (a2:Int):Option (Bool):=if a0_1 = 1 then ((decoupageref02_Holds.f a0_6 a0_7 a0_8 a0_9 a1 a2).bind fun t213 => ((decoupageref02_Holds.f a0_2 a0_3 a0_4 a0_5 a1 a2).bind fun t214 => (if t214 = true then ((decoupageref02_Holds.f a0_10 a0_11 a0_12 a0_13 a1 a2).bind fun t215 => (if t215 = true then (some (!t213)) else (some false))) else (some false)))) else ((decoupageref02_Holds.f a0_2 a0_3 a0_4 a0_5 a1 a2).bind fun t216 => (if t216 = true then ((decoupageref02_Holds.f a0_10 a0_11 a0_12 a0_13 a1 a2).bind fun t217 => (if t217 = true then (some (!false)) else (some false))) else (some false)))
set_option maxHeartbeats 8000000 in
set_option maxRecDepth 100000 in
open Y in
theorem slim_decoupageref26_Shows_ {a0_0:Int} {a0_1:Int} {a0_2:Int} {a0_3:Int} {a0_4:Int} {a0_5:Int} {a0_6:Int} {a0_7:Int} {a0_8:Int} {a0_9:Int} {a0_10:Int} {a0_11:Int} {a0_12:Int} {a0_13:Int} {a0_14:Int} {a1:Int} {a2:Int} {r:Bool} (h:decoupageref26_Shows.f a0_0 a0_1 a0_2 a0_3 a0_4 a0_5 a0_6 a0_7 a0_8 a0_9 a0_10 a0_11 a0_12 a0_13 a0_14 a1 a2 = some r):((bif a0_1 == 1 then bif decide (a0_6 ≤ a1) then bif decide (a1 < a0_8) then bif decide (a0_7 ≤ a2) then bif decide (a0_2 ≤ a1) then bif decide (a1 < a0_4) then bif decide (a0_3 ≤ a2) then bif decide (a2 < a0_5) then bif decide (a0_10 ≤ a1) then bif decide (a1 < a0_12) then bif decide (a0_11 ≤ a2) then bif decide (a2 < a0_13) then some (MV.val (Value.bool !decide (a2 < a0_9)),[]) else some (MV.val (Value.bool false),[]) else some (MV.val (Value.bool false),[]) else some (MV.val (Value.bool false),[]) else some (MV.val (Value.bool false),[]) else some (MV.val (Value.bool false),[]) else some (MV.val (Value.bool false),[]) else some (MV.val (Value.bool false),[]) else some (MV.val (Value.bool false),[]) else bif decide (a0_2 ≤ a1) then bif decide (a1 < a0_4) then bif decide (a0_3 ≤ a2) then bif decide (a2 < a0_5) then bif decide (a0_10 ≤ a1) then bif decide (a1 < a0_12) then bif decide (a0_11 ≤ a2) then bif decide (a2 < a0_13) then some (MV.val (Value.bool !false),[]) else some (MV.val (Value.bool false),[]) else some (MV.val (Value.bool false),[]) else some (MV.val (Value.bool false),[]) else some (MV.val (Value.bool false),[]) else some (MV.val (Value.bool false),[]) else some (MV.val (Value.bool false),[]) else some (MV.val (Value.bool false),[]) else some (MV.val (Value.bool false),[]) else bif decide (a0_2 ≤ a1) then bif decide (a1 < a0_4) then bif decide (a0_3 ≤ a2) then bif decide (a2 < a0_5) then bif decide (a0_10 ≤ a1) then bif decide (a1 < a0_12) then bif decide (a0_11 ≤ a2) then bif decide (a2 < a0_13) then some (MV.val (Value.bool !false),[]) else some (MV.val (Value.bool false),[]) else some (MV.val (Value.bool false),[]) else some (MV.val (Value.bool false),[]) else some (MV.val (Value.bool false),[]) else some (MV.val (Value.bool false),[]) else some (MV.val (Value.bool false),[]) else some (MV.val (Value.bool false),[]) else some (MV.val (Value.bool false),[]) else bif decide (a0_2 ≤ a1) then bif decide (a1 < a0_4) then bif decide (a0_3 ≤ a2) then bif decide (a2 < a0_5) then bif decide (a0_10 ≤ a1) then bif decide (a1 < a0_12) then bif decide (a0_11 ≤ a2) then bif decide (a2 < a0_13) then some (MV.val (Value.bool !false),[]) else some (MV.val (Value.bool false),[]) else some (MV.val (Value.bool false),[]) else some (MV.val (Value.bool false),[]) else some (MV.val (Value.bool false),[]) else some (MV.val (Value.bool false),[]) else some (MV.val (Value.bool false),[]) else some (MV.val (Value.bool false),[]) else some (MV.val (Value.bool false),[]) else bif decide (a0_2 ≤ a1) then bif decide (a1 < a0_4) then bif decide (a0_3 ≤ a2) then bif decide (a2 < a0_5) then bif decide (a0_10 ≤ a1) then bif decide (a1 < a0_12) then bif decide (a0_11 ≤ a2) then bif decide (a2 < a0_13) then some (MV.val (Value.bool !false),[]) else some (MV.val (Value.bool false),[]) else some (MV.val (Value.bool false),[]) else some (MV.val (Value.bool false),[]) else some (MV.val (Value.bool false),[]) else some (MV.val (Value.bool false),[]) else some (MV.val (Value.bool false),[]) else some (MV.val (Value.bool false),[]) else some (MV.val (Value.bool false),[]):Option Out)) = some (MV.val (.bool r),[]):=by
 refine Eq.trans (b:=(decoupageref26_Shows.f a0_0 a0_1 a0_2 a0_3 a0_4 a0_5 a0_6 a0_7 a0_8 a0_9 a0_10 a0_11 a0_12 a0_13 a0_14 a1 a2).map fun q => (MV.val (.bool q),[])) ?_ (by rw [h]; rfl)
 simp only [decoupageref26_Shows.f,decoupageref02_Holds.f,SlPT.slim_bi,SlPT.slim_mi,Option.bind_some,Option.map_some,Bool.cond_eq_ite,decide_eq_true_eq,beq_iff_eq,bne_iff_ne,ne_eq,ite_not,Bool.and_eq_true,and_true,Bool.false_eq_true,if_false,if_true,i64_w,Bool.not_false,Bool.not_true,Int.zero_sub,Bool.not_eq_true',decide_eq_false_iff_not,Option.map_none] <;> (try simp only [mx,mn]) <;> rfl
theorem decoupageref26_Shows.calls (a0_0:Int) (a0_1:Int) (a0_2:Int) (a0_3:Int) (a0_4:Int) (a0_5:Int) (a0_6:Int) (a0_7:Int) (a0_8:Int) (a0_9:Int) (a0_10:Int) (a0_11:Int) (a0_12:Int) (a0_13:Int) (a0_14:Int) (a1:Int) (a2:Int) (r:Bool) (w:World) (h:decoupageref26_Shows.f a0_0 a0_1 a0_2 a0_3 a0_4 a0_5 a0_6 a0_7 a0_8 a0_9 a0_10 a0_11 a0_12 a0_13 a0_14 a1 a2 = some r) :
  Calls Try.prog 48 #[.agg #[.int .i64 a0_0,.int .i64 a0_1,.int .i64 a0_2,.int .i64 a0_3,.int .i64 a0_4,.int .i64 a0_5,.int .i64 a0_6,.int .i64 a0_7,.int .i64 a0_8,.int .i64 a0_9,.int .i64 a0_10,.int .i64 a0_11,.int .i64 a0_12,.int .i64 a0_13,.int .i64 a0_14],.int .i64 a1,.int .i64 a2] w fun e w' => e = .returned (.bool r) ∧ Below w.heap.size w w':=by
 have hx:Y.xfun Try.prog SlPT.E SlPT.C47 3 48 [Y.MV.agg [Y.MV.val (.int .i64 a0_0),Y.MV.val (.int .i64 a0_1),Y.MV.val (.int .i64 a0_2),Y.MV.val (.int .i64 a0_3),Y.MV.val (.int .i64 a0_4),Y.MV.val (.int .i64 a0_5),Y.MV.val (.int .i64 a0_6),Y.MV.val (.int .i64 a0_7),Y.MV.val (.int .i64 a0_8),Y.MV.val (.int .i64 a0_9),Y.MV.val (.int .i64 a0_10),Y.MV.val (.int .i64 a0_11),Y.MV.val (.int .i64 a0_12),Y.MV.val (.int .i64 a0_13),Y.MV.val (.int .i64 a0_14)],Y.MV.val (.int .i64 a1),Y.MV.val (.int .i64 a2)] [] Y.fin = some (Y.MV.val (.bool r),[]):=by
  rw [SlPT.nf48]
  exact slim_decoupageref26_Shows_ h
 refine (Y.call_of SlPT.E_ok SlPT.C47_ok (fun _ _ _ => trivial) SlPT.mixed rfl rfl hx w).mono ?_
 rintro e w' ⟨rfl,hB⟩
 exact ⟨rfl,hB⟩
end Go.Proofs.Ytppklhfiajjhmaa.PPT
end
section
namespace Go.Proofs.Ytppklhfiajjhmaa.PPT
open Go.RowKit Go.Proofs.YtppklhfiajjhmaaW.PrintWords Go.Proofs.YtppklhfiajjhmaaW.PrintLast Go.Proofs.YtppklhfiajjhmaaW.PrintMore
attribute [local go_sem] max2_int min2_int max_two min_two max_three min_three max_four min_four   -- for this text's walks alone
set_option linter.unusedVariables false
set_option linter.unusedSimpArgs false
def decoupageref26_Owner.l0:Nat → List (S39) → Int → Int → Int → Int → Int → Option (Int)
 | 0,_,_,_,_,_,_ => none
 | k + 1,x0,x1,x2,x7,x10,x11 => if x11 < x10 then (if 0 ≤ x11 then (if x11 < (x0.length:Int) then ((decoupageref26_Shows.f ((rd_T39 x0 x11).f0) ((rd_T39 x0 x11).f1) ((rd_T39 x0 x11).f2.f0) ((rd_T39 x0 x11).f2.f1) ((rd_T39 x0 x11).f2.f2) ((rd_T39 x0 x11).f2.f3) ((rd_T39 x0 x11).f3.f0) ((rd_T39 x0 x11).f3.f1) ((rd_T39 x0 x11).f3.f2) ((rd_T39 x0 x11).f3.f3) ((rd_T39 x0 x11).f4.f0) ((rd_T39 x0 x11).f4.f1) ((rd_T39 x0 x11).f4.f2) ((rd_T39 x0 x11).f4.f3) ((rd_T39 x0 x11).f5) x1 x2).bind fun t219 => (if t219 = true then (decoupageref26_Owner.l0 k x0 x1 x2 x11 x10 (wrap64 (x11 + 1))) else (decoupageref26_Owner.l0 k x0 x1 x2 x7 x10 (wrap64 (x11 + 1))))) else (none)) else (none)) else (some x7)
def decoupageref26_Owner.f (k:Nat) (l0:List (S39)) (a1:Int) (a2:Int):Option (Int):=decoupageref26_Owner.l0 k l0 a1 a2 (-1) (l0.length:Int) 0
set_option maxHeartbeats 8000000 in
set_option maxRecDepth 100000 in
theorem decoupageref26_Owner.calls (k:Nat) (A0:Option Addr) (c0:Nat) (l0:List (S39)) (a1:Int) (a2:Int) (r:Int) (w:World) (hr0:Kd.C k39 w A0 l0.length l0) (hc0:l0.length ≤ c0) (h:decoupageref26_Owner.f k l0 a1 a2 = some r) :
  Calls Try.prog 22 #[.slice A0 l0.length c0,.int .i64 a1,.int .i64 a2] w fun e w' => e = .returned (.int .i64 r) ∧ Below w.heap.size w w':=by
 have hu39:=Try.underlying39
 have HR0:=Aside0.mk hr0
 have HC0:=Aside0.mk hc0
 clear hr0 hc0
 have HB:=Aside0.mk (Below.refl w.heap.size w)
 have H:(decoupageref26_Owner.l0 k l0 a1 a2 (-1) (l0.length:Int) 0) = some r:=h
 clear h
 have H':=Aside0.mk H
 clear H
 go_enter Try.func22,Try.ntmps22
 go_wp2
 go_loopg [7,11] k (fun kq v7 v11 w' => ∃ (x7_1:Int) (x11_1:Int),v7 = .int .i64 x7_1 ∧ v11 = .int .i64 x11_1 ∧ Aside0 (decoupageref26_Owner.l0 kq l0 a1 a2 x7_1 (l0.length:Int) x11_1 = some r) ∧ Aside0 (kq ≤ k) ∧ Aside0 (Below w.heap.size w w'))
 case atStart => exact ⟨((-1)),(0),(by first | rfl | (simp; done) | (simp [*]; done)),(by first | rfl | (simp; done) | (simp [*]; done)),H',⟨Nat.le_refl _⟩,⟨by repeat (first | (with_reducible first | exact HB.out | apply below_alloc | apply pw_below_drewN | apply below_drew1) | exact HB.out)⟩⟩
 case round =>
  clear H'
  try clear c2
  try clear p2
  obtain ⟨x7_1,x11_1,rfl,rfl,HA,HK1,HB⟩:=hrel
  cases gk with
  | zero => exact absurd HA.out (by simp [decoupageref26_Owner.l0])
  | succ k1 =>
   have H:=HA.out
   clear HA
   simp only [decoupageref26_Owner.l0] at H
   by_cases c4:x11_1 < (l0.length:Int)
   ·rw [if_pos c4] at H
    have c4b0:decide (x11_1 < (l0.length:Int)) = true:=decide_eq_true c4
    clear c4
    by_cases c5:0 ≤ x11_1
    ·rw [if_pos c5] at H
     have c5b0:decide (0 ≤ x11_1) = true:=decide_eq_true c5
     clear c5
     by_cases c6:x11_1 < (l0.length:Int)
     ·rw [if_pos c6] at H
      have c6b0:decide (x11_1 < (l0.length:Int)) = true:=decide_eq_true c6
      clear c6
      replace H:=Option.bind_eq_some_iff.mp H
      obtain ⟨t219,A70,H⟩:=H
      replace H:(if t219 = true then (decoupageref26_Owner.l0 k1 l0 a1 a2 x11_1 (l0.length:Int) (wrap64 (x11_1 + 1))) else (decoupageref26_Owner.l0 k1 l0 a1 a2 x7_1 (l0.length:Int) (wrap64 (x11_1 + 1)))) = some r:=H
      have A7:=Aside0.mk A70
      clear A70
      by_cases c8:t219 = true
      ·subst c8
       have H1:(decoupageref26_Owner.l0 k1 l0 a1 a2 x11_1 (l0.length:Int) (wrap64 (x11_1 + 1))) = some r:=by rw [if_pos rfl] at H; exact H
       clear H
       have H:=H1
       clear H1
       have H':=Aside0.mk H
       clear H
       have p218:0 ≤ (x11_1:Int):=of_decide_eq_true (by first | (with_reducible assumption) | assumption)
       have q218:x11_1 < (l0.length:Int):=of_decide_eq_true (by first | (with_reducible assumption) | assumption)
       obtain ⟨ad218,e218,hx218_0,hx218_1,hx218_2,hx218_3,hx218_4,hx218_5,hx218_6,hx218_7,hx218_8,hx218_9,hx218_10,hx218_11,hx218_12,hx218_13,hx218_14⟩:=at_T39 HR0.out x11_1 p218 q218
       cases e218
       replace hx218_0:=(HB.out.cell (World.block_lt_of_cell? w _ hx218_0)).trans hx218_0
       replace hx218_1:=(HB.out.cell (World.block_lt_of_cell? w _ hx218_1)).trans hx218_1
       replace hx218_2:=(HB.out.cell (World.block_lt_of_cell? w _ hx218_2)).trans hx218_2
       replace hx218_3:=(HB.out.cell (World.block_lt_of_cell? w _ hx218_3)).trans hx218_3
       replace hx218_4:=(HB.out.cell (World.block_lt_of_cell? w _ hx218_4)).trans hx218_4
       replace hx218_5:=(HB.out.cell (World.block_lt_of_cell? w _ hx218_5)).trans hx218_5
       replace hx218_6:=(HB.out.cell (World.block_lt_of_cell? w _ hx218_6)).trans hx218_6
       replace hx218_7:=(HB.out.cell (World.block_lt_of_cell? w _ hx218_7)).trans hx218_7
       replace hx218_8:=(HB.out.cell (World.block_lt_of_cell? w _ hx218_8)).trans hx218_8
       replace hx218_9:=(HB.out.cell (World.block_lt_of_cell? w _ hx218_9)).trans hx218_9
       replace hx218_10:=(HB.out.cell (World.block_lt_of_cell? w _ hx218_10)).trans hx218_10
       replace hx218_11:=(HB.out.cell (World.block_lt_of_cell? w _ hx218_11)).trans hx218_11
       replace hx218_12:=(HB.out.cell (World.block_lt_of_cell? w _ hx218_12)).trans hx218_12
       replace hx218_13:=(HB.out.cell (World.block_lt_of_cell? w _ hx218_13)).trans hx218_13
       replace hx218_14:=(HB.out.cell (World.block_lt_of_cell? w _ hx218_14)).trans hx218_14
       replace p218:=eq_true p218
       replace q218:=eq_true q218
       go_wp2_with (first | ((with_reducible refine gate_callee (f:=48) rfl ?_); refine goesL_ (some 20) rfl rfl Try.func48 (by kernel_rfl) rfl #[.agg #[.int .i64 ((rd_T39 l0 x11_1).f0),.int .i64 ((rd_T39 l0 x11_1).f1),.int .i64 ((rd_T39 l0 x11_1).f2.f0),.int .i64 ((rd_T39 l0 x11_1).f2.f1),.int .i64 ((rd_T39 l0 x11_1).f2.f2),.int .i64 ((rd_T39 l0 x11_1).f2.f3),.int .i64 ((rd_T39 l0 x11_1).f3.f0),.int .i64 ((rd_T39 l0 x11_1).f3.f1),.int .i64 ((rd_T39 l0 x11_1).f3.f2),.int .i64 ((rd_T39 l0 x11_1).f3.f3),.int .i64 ((rd_T39 l0 x11_1).f4.f0),.int .i64 ((rd_T39 l0 x11_1).f4.f1),.int .i64 ((rd_T39 l0 x11_1).f4.f2),.int .i64 ((rd_T39 l0 x11_1).f4.f3),.int .i64 ((rd_T39 l0 x11_1).f5)],.int .i64 a1,.int .i64 a2] rfl (by (try simp only [List.map_toArray,List.map_cons,List.map_nil]); first | done | rfl | (simp only [List.length_drop,List.length_take]; rfl)) ?_; (with_reducible refine (decoupageref26_Shows.calls ((rd_T39 l0 x11_1).f0) ((rd_T39 l0 x11_1).f1) ((rd_T39 l0 x11_1).f2.f0) ((rd_T39 l0 x11_1).f2.f1) ((rd_T39 l0 x11_1).f2.f2) ((rd_T39 l0 x11_1).f2.f3) ((rd_T39 l0 x11_1).f3.f0) ((rd_T39 l0 x11_1).f3.f1) ((rd_T39 l0 x11_1).f3.f2) ((rd_T39 l0 x11_1).f3.f3) ((rd_T39 l0 x11_1).f4.f0) ((rd_T39 l0 x11_1).f4.f1) ((rd_T39 l0 x11_1).f4.f2) ((rd_T39 l0 x11_1).f4.f3) ((rd_T39 l0 x11_1).f5) a1 a2 true _ A7.out).mono ?_); rintro e w9 ⟨rfl,hb⟩; refine ⟨_,rfl,?_⟩; have n0_:=Aside0.mk (below_step (by repeat (first | (with_reducible first | exact HB.out | apply below_alloc | apply pw_below_drewN | apply below_drew1) | exact HB.out)) hb); clear HB; have HB:=n0_; clear n0_; (try clear hb); (try clear hb2); (try clear hk); (try clear hi)))
       go_roundg k1
       case measure => have:=HK1.out; omega
       case rel => exact ⟨(x11_1),(wrap64 (x11_1 + 1)),(by first | rfl | (simp; done) | (simp [*]; done)),(by first | rfl | (simp; done) | (simp [*]; done)),H',⟨by have:=HK1.out; omega⟩,⟨by repeat (first | (with_reducible first | exact HB.out | apply below_alloc | apply pw_below_drewN | apply below_drew1) | exact HB.out)⟩⟩
      ·replace c8:=Bool.eq_false_iff.mpr c8
       subst c8
       have H1:(decoupageref26_Owner.l0 k1 l0 a1 a2 x7_1 (l0.length:Int) (wrap64 (x11_1 + 1))) = some r:=by rw [if_neg (show ¬ (false = true) by decide)] at H; exact H
       clear H
       have H:=H1
       clear H1
       have H':=Aside0.mk H
       clear H
       have p218:0 ≤ (x11_1:Int):=of_decide_eq_true (by first | (with_reducible assumption) | assumption)
       have q218:x11_1 < (l0.length:Int):=of_decide_eq_true (by first | (with_reducible assumption) | assumption)
       obtain ⟨ad218,e218,hx218_0,hx218_1,hx218_2,hx218_3,hx218_4,hx218_5,hx218_6,hx218_7,hx218_8,hx218_9,hx218_10,hx218_11,hx218_12,hx218_13,hx218_14⟩:=at_T39 HR0.out x11_1 p218 q218
       cases e218
       replace hx218_0:=(HB.out.cell (World.block_lt_of_cell? w _ hx218_0)).trans hx218_0
       replace hx218_1:=(HB.out.cell (World.block_lt_of_cell? w _ hx218_1)).trans hx218_1
       replace hx218_2:=(HB.out.cell (World.block_lt_of_cell? w _ hx218_2)).trans hx218_2
       replace hx218_3:=(HB.out.cell (World.block_lt_of_cell? w _ hx218_3)).trans hx218_3
       replace hx218_4:=(HB.out.cell (World.block_lt_of_cell? w _ hx218_4)).trans hx218_4
       replace hx218_5:=(HB.out.cell (World.block_lt_of_cell? w _ hx218_5)).trans hx218_5
       replace hx218_6:=(HB.out.cell (World.block_lt_of_cell? w _ hx218_6)).trans hx218_6
       replace hx218_7:=(HB.out.cell (World.block_lt_of_cell? w _ hx218_7)).trans hx218_7
       replace hx218_8:=(HB.out.cell (World.block_lt_of_cell? w _ hx218_8)).trans hx218_8
       replace hx218_9:=(HB.out.cell (World.block_lt_of_cell? w _ hx218_9)).trans hx218_9
       replace hx218_10:=(HB.out.cell (World.block_lt_of_cell? w _ hx218_10)).trans hx218_10
       replace hx218_11:=(HB.out.cell (World.block_lt_of_cell? w _ hx218_11)).trans hx218_11
       replace hx218_12:=(HB.out.cell (World.block_lt_of_cell? w _ hx218_12)).trans hx218_12
       replace hx218_13:=(HB.out.cell (World.block_lt_of_cell? w _ hx218_13)).trans hx218_13
       replace hx218_14:=(HB.out.cell (World.block_lt_of_cell? w _ hx218_14)).trans hx218_14
       replace p218:=eq_true p218
       replace q218:=eq_true q218
       go_wp2_with (first | ((with_reducible refine gate_callee (f:=48) rfl ?_); refine goesL_ (some 20) rfl rfl Try.func48 (by kernel_rfl) rfl #[.agg #[.int .i64 ((rd_T39 l0 x11_1).f0),.int .i64 ((rd_T39 l0 x11_1).f1),.int .i64 ((rd_T39 l0 x11_1).f2.f0),.int .i64 ((rd_T39 l0 x11_1).f2.f1),.int .i64 ((rd_T39 l0 x11_1).f2.f2),.int .i64 ((rd_T39 l0 x11_1).f2.f3),.int .i64 ((rd_T39 l0 x11_1).f3.f0),.int .i64 ((rd_T39 l0 x11_1).f3.f1),.int .i64 ((rd_T39 l0 x11_1).f3.f2),.int .i64 ((rd_T39 l0 x11_1).f3.f3),.int .i64 ((rd_T39 l0 x11_1).f4.f0),.int .i64 ((rd_T39 l0 x11_1).f4.f1),.int .i64 ((rd_T39 l0 x11_1).f4.f2),.int .i64 ((rd_T39 l0 x11_1).f4.f3),.int .i64 ((rd_T39 l0 x11_1).f5)],.int .i64 a1,.int .i64 a2] rfl (by (try simp only [List.map_toArray,List.map_cons,List.map_nil]); first | done | rfl | (simp only [List.length_drop,List.length_take]; rfl)) ?_; (with_reducible refine (decoupageref26_Shows.calls ((rd_T39 l0 x11_1).f0) ((rd_T39 l0 x11_1).f1) ((rd_T39 l0 x11_1).f2.f0) ((rd_T39 l0 x11_1).f2.f1) ((rd_T39 l0 x11_1).f2.f2) ((rd_T39 l0 x11_1).f2.f3) ((rd_T39 l0 x11_1).f3.f0) ((rd_T39 l0 x11_1).f3.f1) ((rd_T39 l0 x11_1).f3.f2) ((rd_T39 l0 x11_1).f3.f3) ((rd_T39 l0 x11_1).f4.f0) ((rd_T39 l0 x11_1).f4.f1) ((rd_T39 l0 x11_1).f4.f2) ((rd_T39 l0 x11_1).f4.f3) ((rd_T39 l0 x11_1).f5) a1 a2 false _ A7.out).mono ?_); rintro e w10 ⟨rfl,hb⟩; refine ⟨_,rfl,?_⟩; have n0_:=Aside0.mk (below_step (by repeat (first | (with_reducible first | exact HB.out | apply below_alloc | apply pw_below_drewN | apply below_drew1) | exact HB.out)) hb); clear HB; have HB:=n0_; clear n0_; (try clear hb); (try clear hb2); (try clear hk); (try clear hi)))
       go_roundg k1
       case measure => have:=HK1.out; omega
       case rel => exact ⟨(x7_1),(wrap64 (x11_1 + 1)),(by first | rfl | (simp; done) | (simp [*]; done)),(by first | rfl | (simp; done) | (simp [*]; done)),H',⟨by have:=HK1.out; omega⟩,⟨by repeat (first | (with_reducible first | exact HB.out | apply below_alloc | apply pw_below_drewN | apply below_drew1) | exact HB.out)⟩⟩
     ·rw [if_neg c6] at H
      exact absurd H (by simp)
    ·rw [if_neg c5] at H
     exact absurd H (by simp)
   ·rw [if_neg c4] at H
    have c4b0:decide (x11_1 < (l0.length:Int)) = false:=decide_eq_false c4
    clear c4
    obtain rfl:=Option.some.inj H
    go_wp2
    go_ret
    exact ⟨by first | rfl | (simp [errW_none,errW_some] <;> rfl) | (simp [*,errW_none,errW_some] <;> rfl),by repeat (first | (with_reducible first | exact HB.out | apply below_alloc | apply pw_below_drewN | apply below_drew1) | exact HB.out)⟩
def decoupageref26_Color.f (k:Nat) (l0:List (S39)) (a1:Int) (a2:Int):Option (Int):=(decoupageref26_Owner.f k l0 a1 a2).bind fun t220 => (if t220 < 0 then (some 0) else (if 0 ≤ t220 then (if t220 < (l0.length:Int) then (some ((rd_T39 l0 t220).f5)) else (none)) else (none)))
set_option maxHeartbeats 8000000 in
set_option maxRecDepth 100000 in
theorem decoupageref26_Color.calls (k:Nat) (A0:Option Addr) (c0:Nat) (l0:List (S39)) (a1:Int) (a2:Int) (r:Int) (w:World) (hr0:Kd.C k39 w A0 l0.length l0) (hc0:l0.length ≤ c0) (h:decoupageref26_Color.f k l0 a1 a2 = some r) :
  Calls Try.prog 23 #[.slice A0 l0.length c0,.int .i64 a1,.int .i64 a2] w fun e w' => e = .returned (.int .i64 r) ∧ Below w.heap.size w w':=by
 have HR0:=Aside0.mk hr0
 have HC0:=Aside0.mk hc0
 clear hr0 hc0
 have HB:=Aside0.mk (Below.refl w.heap.size w)
 have H:((decoupageref26_Owner.f k l0 a1 a2).bind fun t220 => (if t220 < 0 then (some 0) else (if 0 ≤ t220 then (if t220 < (l0.length:Int) then (some ((rd_T39 l0 t220).f5)) else (none)) else (none)))) = some r:=h
 clear h
 replace H:=Option.bind_eq_some_iff.mp H
 obtain ⟨t220,A40,H⟩:=H
 replace H:(if t220 < 0 then (some 0) else (if 0 ≤ t220 then (if t220 < (l0.length:Int) then (some ((rd_T39 l0 t220).f5)) else (none)) else (none))) = some r:=H
 have A4:=Aside0.mk A40
 clear A40
 by_cases c5:t220 < 0
 ·rw [if_pos c5] at H
  have c5b0:decide (t220 < 0) = true:=decide_eq_true c5
  clear c5
  obtain rfl:=Option.some.inj H
  go_enter Try.func23,Try.ntmps23
  go_wp2_with (first | ((with_reducible refine gate_callee (f:=22) rfl ?_); refine goesL_ (some 11) rfl rfl Try.func22 (by kernel_rfl) rfl #[.slice A0 l0.length c0,.int .i64 a1,.int .i64 a2] rfl (by (try simp only [List.map_toArray,List.map_cons,List.map_nil]); first | done | rfl | (simp only [List.length_drop,List.length_take]; rfl)) ?_; (with_reducible refine (decoupageref26_Owner.calls k _ _ l0 a1 a2 t220 _ ?side1 ?side2 A4.out).mono ?_); (case side1 => repeat (first | exact HR0.out | (with_reducible refine Kd.C_alloc ?_ _) | (with_reducible refine Kd.C_drewN ?_ _) | (with_reducible refine Kd.C_drew ?_))); (case side2 => exact HC0.out); rintro e w6 ⟨rfl,hb⟩; refine ⟨_,rfl,?_⟩; have n0_:=Aside0.mk (below_step (by repeat (first | (with_reducible first | exact HB.out | apply below_alloc | apply pw_below_drewN | apply below_drew1) | exact HB.out)) hb); clear HB; have HB:=n0_; clear n0_; (try clear hb); (try clear hb2); (try clear hk); (try clear hi)))
  go_ret
  exact ⟨by first | rfl | (simp [errW_none,errW_some] <;> rfl) | (simp [*,errW_none,errW_some] <;> rfl),by repeat (first | (with_reducible first | exact HB.out | apply below_alloc | apply pw_below_drewN | apply below_drew1) | exact HB.out)⟩
 ·rw [if_neg c5] at H
  have c5b0:decide (t220 < 0) = false:=decide_eq_false c5
  clear c5
  by_cases c7:0 ≤ t220
  ·rw [if_pos c7] at H
   have c7b0:decide (0 ≤ t220) = true:=decide_eq_true c7
   clear c7
   by_cases c8:t220 < (l0.length:Int)
   ·rw [if_pos c8] at H
    have c8b0:decide (t220 < (l0.length:Int)) = true:=decide_eq_true c8
    clear c8
    obtain rfl:=Option.some.inj H
    go_enter Try.func23,Try.ntmps23
    go_wp2_with (first | ((with_reducible refine gate_callee (f:=22) rfl ?_); refine goesL_ (some 11) rfl rfl Try.func22 (by kernel_rfl) rfl #[.slice A0 l0.length c0,.int .i64 a1,.int .i64 a2] rfl (by (try simp only [List.map_toArray,List.map_cons,List.map_nil]); first | done | rfl | (simp only [List.length_drop,List.length_take]; rfl)) ?_; (with_reducible refine (decoupageref26_Owner.calls k _ _ l0 a1 a2 t220 _ ?side1 ?side2 A4.out).mono ?_); (case side1 => repeat (first | exact HR0.out | (with_reducible refine Kd.C_alloc ?_ _) | (with_reducible refine Kd.C_drewN ?_ _) | (with_reducible refine Kd.C_drew ?_))); (case side2 => exact HC0.out); rintro e w9 ⟨rfl,hb⟩; refine ⟨_,rfl,?_⟩; have n0_:=Aside0.mk (below_step (by repeat (first | (with_reducible first | exact HB.out | apply below_alloc | apply pw_below_drewN | apply below_drew1) | exact HB.out)) hb); clear HB; have HB:=n0_; clear n0_; (try clear hb); (try clear hb2); (try clear hk); (try clear hi); have p221:0 ≤ (t220:Int):=of_decide_eq_true (by first | (with_reducible assumption) | assumption); have q221:t220 < (l0.length:Int):=of_decide_eq_true (by first | (with_reducible assumption) | assumption); obtain ⟨ad221,e221,hx221_0,hx221_1,hx221_2,hx221_3,hx221_4,hx221_5,hx221_6,hx221_7,hx221_8,hx221_9,hx221_10,hx221_11,hx221_12,hx221_13,hx221_14⟩:=at_T39 HR0.out t220 p221 q221; cases e221; replace hx221_0:=(HB.out.cell (World.block_lt_of_cell? w _ hx221_0)).trans hx221_0; replace hx221_1:=(HB.out.cell (World.block_lt_of_cell? w _ hx221_1)).trans hx221_1; replace hx221_2:=(HB.out.cell (World.block_lt_of_cell? w _ hx221_2)).trans hx221_2; replace hx221_3:=(HB.out.cell (World.block_lt_of_cell? w _ hx221_3)).trans hx221_3; replace hx221_4:=(HB.out.cell (World.block_lt_of_cell? w _ hx221_4)).trans hx221_4; replace hx221_5:=(HB.out.cell (World.block_lt_of_cell? w _ hx221_5)).trans hx221_5; replace hx221_6:=(HB.out.cell (World.block_lt_of_cell? w _ hx221_6)).trans hx221_6; replace hx221_7:=(HB.out.cell (World.block_lt_of_cell? w _ hx221_7)).trans hx221_7; replace hx221_8:=(HB.out.cell (World.block_lt_of_cell? w _ hx221_8)).trans hx221_8; replace hx221_9:=(HB.out.cell (World.block_lt_of_cell? w _ hx221_9)).trans hx221_9; replace hx221_10:=(HB.out.cell (World.block_lt_of_cell? w _ hx221_10)).trans hx221_10; replace hx221_11:=(HB.out.cell (World.block_lt_of_cell? w _ hx221_11)).trans hx221_11; replace hx221_12:=(HB.out.cell (World.block_lt_of_cell? w _ hx221_12)).trans hx221_12; replace hx221_13:=(HB.out.cell (World.block_lt_of_cell? w _ hx221_13)).trans hx221_13; replace hx221_14:=(HB.out.cell (World.block_lt_of_cell? w _ hx221_14)).trans hx221_14; replace p221:=eq_true p221; replace q221:=eq_true q221))
    go_ret
    exact ⟨by first | rfl | (simp [errW_none,errW_some] <;> rfl) | (simp [*,errW_none,errW_some] <;> rfl),by repeat (first | (with_reducible first | exact HB.out | apply below_alloc | apply pw_below_drewN | apply below_drew1) | exact HB.out)⟩
   ·rw [if_neg c8] at H
    exact absurd H (by simp)
  ·rw [if_neg c7] at H
   exact absurd H (by simp)
end Go.Proofs.Ytppklhfiajjhmaa.PPT
end
section
namespace Go.Proofs.Ytppklhfiajjhmaa.PPT
open Go.RowKit Go.Proofs.YtppklhfiajjhmaaW.PrintWords Go.Proofs.YtppklhfiajjhmaaW.PrintLast Go.Proofs.YtppklhfiajjhmaaW.PrintMore
attribute [local go_sem] max2_int min2_int max_two min_two max_three min_three max_four min_four   -- for this text's walks alone
set_option linter.unusedVariables false
set_option linter.unusedSimpArgs false
end Go.Proofs.Ytppklhfiajjhmaa.PPT
end
