/- What is proved: texts of the law TilesOwn, joined by program. Conditions: none but those in each statement. -/
import Derived.Test.YtppklhfiajjhmaaZTilesOwn4
import Derived.Test.YtppklhfiajjhmaaZTilesOwn11
import Derived.Test.YtppklhfiajjhmaaZTilesOwn13
import Derived.Test.YtppklhfiajjhmaaZTilesOwn12
section
namespace Go.Proofs.Ytppklhfiajjhmaa.PPT
open Go.RowKit Go.Proofs.YtppklhfiajjhmaaW.PrintWords Go.Proofs.YtppklhfiajjhmaaW.PrintLast Go.Proofs.YtppklhfiajjhmaaW.PrintMore
attribute [local go_sem] max2_int min2_int max_two min_two max_three min_three max_four min_four   -- for this text's walks alone
set_option linter.unusedVariables false
set_option linter.unusedSimpArgs false
def rect_Empty.f (a0_0:Int) (a0_1:Int) (a0_2:Int) (a0_3:Int):Option (Bool):=if a0_0 ≥ a0_2 then (some true) else (some (decide (a0_1 ≥ a0_3)))
set_option maxHeartbeats 8000000 in
set_option maxRecDepth 100000 in
open Y in
theorem slim_rect_Empty_ {a0_0:Int} {a0_1:Int} {a0_2:Int} {a0_3:Int} {r:Bool} (h:rect_Empty.f a0_0 a0_1 a0_2 a0_3 = some r):((bif decide (a0_0 ≥ a0_2) then some (MV.val (Value.bool true),[]) else some (MV.val (Value.bool (decide (a0_1 ≥ a0_3))),[]):Option Out)) = some (MV.val (.bool r),[]):=by
 refine Eq.trans (b:=(rect_Empty.f a0_0 a0_1 a0_2 a0_3).map fun q => (MV.val (.bool q),[])) ?_ (by rw [h]; rfl)
 simp only [rect_Empty.f,SlPT.slim_bi,SlPT.slim_mi,Option.bind_some,Option.map_some,Bool.cond_eq_ite,decide_eq_true_eq,beq_iff_eq,bne_iff_ne,ne_eq,ite_not,Bool.and_eq_true,and_true,Bool.false_eq_true,if_false,if_true,i64_w,Bool.not_false,Bool.not_true,Int.zero_sub,Bool.not_eq_true',decide_eq_false_iff_not,Option.map_none] <;> (try simp only [mx,mn]) <;> rfl
theorem rect_Empty.calls (a0_0:Int) (a0_1:Int) (a0_2:Int) (a0_3:Int) (r:Bool) (w:World) (h:rect_Empty.f a0_0 a0_1 a0_2 a0_3 = some r) :
  Calls Try.prog 55 #[.agg #[.int .i64 a0_0,.int .i64 a0_1,.int .i64 a0_2,.int .i64 a0_3]] w fun e w' => e = .returned (.bool r) ∧ Below w.heap.size w w':=by
 have hx:Y.xfun Try.prog SlPT.E SlPT.C24 3 55 [Y.MV.agg [Y.MV.val (.int .i64 a0_0),Y.MV.val (.int .i64 a0_1),Y.MV.val (.int .i64 a0_2),Y.MV.val (.int .i64 a0_3)]] [] Y.fin = some (Y.MV.val (.bool r),[]):=by
  rw [SlPT.nf55]
  exact slim_rect_Empty_ h
 refine (Y.call_of SlPT.E_ok SlPT.C24_ok (fun _ _ _ => trivial) SlPT.mixed rfl rfl hx w).mono ?_
 rintro e w' ⟨rfl,hB⟩
 exact ⟨rfl,hB⟩
def rect_Meet.f (a0_0:Int) (a0_1:Int) (a0_2:Int) (a0_3:Int) (a1_0:Int) (a1_1:Int) (a1_2:Int) (a1_3:Int):Option (Int × Int × Int × Int):=(rect_Empty.f (mx a0_0 a1_0) (mx a0_1 a1_1) (mn a0_2 a1_2) (mn a0_3 a1_3)).bind fun t203 => (if t203 = true then (some (0,0,0,0)) else (some (mx a0_0 a1_0,mx a0_1 a1_1,mn a0_2 a1_2,mn a0_3 a1_3)))
set_option maxHeartbeats 8000000 in
set_option maxRecDepth 100000 in
open Y in
theorem slim_rect_Meet_ {a0_0:Int} {a0_1:Int} {a0_2:Int} {a0_3:Int} {a1_0:Int} {a1_1:Int} {a1_2:Int} {a1_3:Int} {r1:Int} {r2:Int} {r3:Int} {r4:Int} (h:rect_Meet.f a0_0 a0_1 a0_2 a0_3 a1_0 a1_1 a1_2 a1_3 = some (r1,r2,r3,r4)):((bif decide ((if a0_0 < a1_0 then a1_0 else a0_0) ≥ if a1_2 < a0_2 then a1_2 else a0_2) then some (MV.agg [MV.val (Value.int IntKind.i64 0),MV.val (Value.int IntKind.i64 0),MV.val (Value.int IntKind.i64 0),MV.val (Value.int IntKind.i64 0)],[]) else bif decide ((if a0_1 < a1_1 then a1_1 else a0_1) ≥ if a1_3 < a0_3 then a1_3 else a0_3) then some (MV.agg [MV.val (Value.int IntKind.i64 0),MV.val (Value.int IntKind.i64 0),MV.val (Value.int IntKind.i64 0),MV.val (Value.int IntKind.i64 0)],[]) else some (MV.agg [MV.val (Value.int IntKind.i64 (if a0_0 < a1_0 then a1_0 else a0_0)),MV.val (Value.int IntKind.i64 (if a0_1 < a1_1 then a1_1 else a0_1)),MV.val (Value.int IntKind.i64 (if a1_2 < a0_2 then a1_2 else a0_2)),MV.val (Value.int IntKind.i64 (if a1_3 < a0_3 then a1_3 else a0_3))],[]):Option Out)) = some (MV.agg [MV.val (.int .i64 r1),MV.val (.int .i64 r2),MV.val (.int .i64 r3),MV.val (.int .i64 r4)],[]):=by
 refine Eq.trans (b:=(rect_Meet.f a0_0 a0_1 a0_2 a0_3 a1_0 a1_1 a1_2 a1_3).map fun q => (MV.agg [MV.val (.int .i64 q.1),MV.val (.int .i64 q.2.1),MV.val (.int .i64 q.2.2.1),MV.val (.int .i64 q.2.2.2)],[])) ?_ (by rw [h]; rfl)
 simp only [rect_Meet.f,rect_Empty.f,SlPT.slim_bi,SlPT.slim_mi,Option.bind_some,Option.map_some,Bool.cond_eq_ite,decide_eq_true_eq,beq_iff_eq,bne_iff_ne,ne_eq,ite_not,Bool.and_eq_true,and_true,Bool.false_eq_true,if_false,if_true,i64_w,Bool.not_false,Bool.not_true,Int.zero_sub,Bool.not_eq_true',decide_eq_false_iff_not,Option.map_none] <;> (try simp only [mx,mn]) <;> rfl
theorem rect_Meet.calls (a0_0:Int) (a0_1:Int) (a0_2:Int) (a0_3:Int) (a1_0:Int) (a1_1:Int) (a1_2:Int) (a1_3:Int) (r1:Int) (r2:Int) (r3:Int) (r4:Int) (w:World) (h:rect_Meet.f a0_0 a0_1 a0_2 a0_3 a1_0 a1_1 a1_2 a1_3 = some (r1,r2,r3,r4)) :
  Calls Try.prog 53 #[.agg #[.int .i64 a0_0,.int .i64 a0_1,.int .i64 a0_2,.int .i64 a0_3],.agg #[.int .i64 a1_0,.int .i64 a1_1,.int .i64 a1_2,.int .i64 a1_3]] w fun e w' => e = .returned (.agg #[.int .i64 r1,.int .i64 r2,.int .i64 r3,.int .i64 r4]) ∧ Below w.heap.size w w':=by
 have hx:Y.xfun Try.prog SlPT.E SlPT.C55 3 53 [Y.MV.agg [Y.MV.val (.int .i64 a0_0),Y.MV.val (.int .i64 a0_1),Y.MV.val (.int .i64 a0_2),Y.MV.val (.int .i64 a0_3)],Y.MV.agg [Y.MV.val (.int .i64 a1_0),Y.MV.val (.int .i64 a1_1),Y.MV.val (.int .i64 a1_2),Y.MV.val (.int .i64 a1_3)]] [] Y.fin = some (Y.MV.agg [Y.MV.val (.int .i64 r1),Y.MV.val (.int .i64 r2),Y.MV.val (.int .i64 r3),Y.MV.val (.int .i64 r4)],[]):=by
  rw [SlPT.nf53]
  exact slim_rect_Meet_ h
 refine (Y.call_of SlPT.E_ok SlPT.C55_ok (fun _ _ _ => trivial) SlPT.mixed rfl rfl hx w).mono ?_
 rintro e w' ⟨rfl,hB⟩
 exact ⟨rfl,hB⟩
def owner_Seen.f (a0_0:Int) (a0_1:Int) (a0_2:Int) (a0_3:Int) (a0_4:Int) (a0_5:Int) (a0_6:Int) (a0_7:Int) (a0_8:Int) (a0_9:Int) (a0_10:Int) (a0_11:Int) (a0_12:Int) (a0_13:Int) (a0_14:Int):Option (Int × Int × Int × Int):=(rect_Meet.f a0_2 a0_3 a0_4 a0_5 a0_10 a0_11 a0_12 a0_13).bind fun bt206 => (some (bt206.1,bt206.2.1,bt206.2.2.1,bt206.2.2.2))
set_option maxHeartbeats 8000000 in
set_option maxRecDepth 100000 in
open Y in
theorem slim_owner_Seen_ {a0_0:Int} {a0_1:Int} {a0_2:Int} {a0_3:Int} {a0_4:Int} {a0_5:Int} {a0_6:Int} {a0_7:Int} {a0_8:Int} {a0_9:Int} {a0_10:Int} {a0_11:Int} {a0_12:Int} {a0_13:Int} {a0_14:Int} {r1:Int} {r2:Int} {r3:Int} {r4:Int} (h:owner_Seen.f a0_0 a0_1 a0_2 a0_3 a0_4 a0_5 a0_6 a0_7 a0_8 a0_9 a0_10 a0_11 a0_12 a0_13 a0_14 = some (r1,r2,r3,r4)):((bif decide ((if a0_2 < a0_10 then a0_10 else a0_2) ≥ if a0_12 < a0_4 then a0_12 else a0_4) then some (MV.agg [MV.val (Value.int IntKind.i64 0),MV.val (Value.int IntKind.i64 0),MV.val (Value.int IntKind.i64 0),MV.val (Value.int IntKind.i64 0)],[]) else bif decide ((if a0_3 < a0_11 then a0_11 else a0_3) ≥ if a0_13 < a0_5 then a0_13 else a0_5) then some (MV.agg [MV.val (Value.int IntKind.i64 0),MV.val (Value.int IntKind.i64 0),MV.val (Value.int IntKind.i64 0),MV.val (Value.int IntKind.i64 0)],[]) else some (MV.agg [MV.val (Value.int IntKind.i64 (if a0_2 < a0_10 then a0_10 else a0_2)),MV.val (Value.int IntKind.i64 (if a0_3 < a0_11 then a0_11 else a0_3)),MV.val (Value.int IntKind.i64 (if a0_12 < a0_4 then a0_12 else a0_4)),MV.val (Value.int IntKind.i64 (if a0_13 < a0_5 then a0_13 else a0_5))],[]):Option Out)) = some (MV.agg [MV.val (.int .i64 r1),MV.val (.int .i64 r2),MV.val (.int .i64 r3),MV.val (.int .i64 r4)],[]):=by
 refine Eq.trans (b:=(owner_Seen.f a0_0 a0_1 a0_2 a0_3 a0_4 a0_5 a0_6 a0_7 a0_8 a0_9 a0_10 a0_11 a0_12 a0_13 a0_14).map fun q => (MV.agg [MV.val (.int .i64 q.1),MV.val (.int .i64 q.2.1),MV.val (.int .i64 q.2.2.1),MV.val (.int .i64 q.2.2.2)],[])) ?_ (by rw [h]; rfl)
 simp only [owner_Seen.f,rect_Meet.f,rect_Empty.f,SlPT.slim_bi,SlPT.slim_mi,Option.bind_some,Option.map_some,Bool.cond_eq_ite,decide_eq_true_eq,beq_iff_eq,bne_iff_ne,ne_eq,ite_not,Bool.and_eq_true,and_true,Bool.false_eq_true,if_false,if_true,i64_w,Bool.not_false,Bool.not_true,Int.zero_sub,Bool.not_eq_true',decide_eq_false_iff_not,Option.map_none] <;> (try simp only [mx,mn]) <;> rfl
theorem owner_Seen.calls (a0_0:Int) (a0_1:Int) (a0_2:Int) (a0_3:Int) (a0_4:Int) (a0_5:Int) (a0_6:Int) (a0_7:Int) (a0_8:Int) (a0_9:Int) (a0_10:Int) (a0_11:Int) (a0_12:Int) (a0_13:Int) (a0_14:Int) (r1:Int) (r2:Int) (r3:Int) (r4:Int) (w:World) (h:owner_Seen.f a0_0 a0_1 a0_2 a0_3 a0_4 a0_5 a0_6 a0_7 a0_8 a0_9 a0_10 a0_11 a0_12 a0_13 a0_14 = some (r1,r2,r3,r4)) :
  Calls Try.prog 43 #[.agg #[.int .i64 a0_0,.int .i64 a0_1,.int .i64 a0_2,.int .i64 a0_3,.int .i64 a0_4,.int .i64 a0_5,.int .i64 a0_6,.int .i64 a0_7,.int .i64 a0_8,.int .i64 a0_9,.int .i64 a0_10,.int .i64 a0_11,.int .i64 a0_12,.int .i64 a0_13,.int .i64 a0_14]] w fun e w' => e = .returned (.agg #[.int .i64 r1,.int .i64 r2,.int .i64 r3,.int .i64 r4]) ∧ Below w.heap.size w w':=by
 have hx:Y.xfun Try.prog SlPT.E SlPT.C53 3 43 [Y.MV.agg [Y.MV.val (.int .i64 a0_0),Y.MV.val (.int .i64 a0_1),Y.MV.val (.int .i64 a0_2),Y.MV.val (.int .i64 a0_3),Y.MV.val (.int .i64 a0_4),Y.MV.val (.int .i64 a0_5),Y.MV.val (.int .i64 a0_6),Y.MV.val (.int .i64 a0_7),Y.MV.val (.int .i64 a0_8),Y.MV.val (.int .i64 a0_9),Y.MV.val (.int .i64 a0_10),Y.MV.val (.int .i64 a0_11),Y.MV.val (.int .i64 a0_12),Y.MV.val (.int .i64 a0_13),Y.MV.val (.int .i64 a0_14)]] [] Y.fin = some (Y.MV.agg [Y.MV.val (.int .i64 r1),Y.MV.val (.int .i64 r2),Y.MV.val (.int .i64 r3),Y.MV.val (.int .i64 r4)],[]):=by
  rw [SlPT.nf43]
  exact slim_owner_Seen_ h
 refine (Y.call_of SlPT.E_ok SlPT.C53_ok (fun _ _ _ => trivial) SlPT.mixed rfl rfl hx w).mono ?_
 rintro e w' ⟨rfl,hB⟩
 exact ⟨rfl,hB⟩
mutual
def rect_Cut.j0:Nat → Int → Int → Int → Int → Int → Int → Int → Int → Option ((List (S37)))
 | 0,_,_,_,_,_,_,_,_ => none
 | k + 1,x211000,x211001,x211002,x211003,x217000,x217001,x217002,x217003 => (some (([(⟨x211000,x211001,x211002,x217001⟩:S37),(⟨x211000,x217003,x211002,x211003⟩:S37),(⟨x211000,x217001,x217000,x217003⟩:S37),(⟨x217002,x217001,x211002,x217003⟩:S37)]:List (S37)):List (S37))).bind fun y218 => (rect_Cut.l0 k ([]:List (S37)) y218 (y218.length:Int) 0)
def rect_Cut.l0:Nat → List (S37) → List (S37) → Int → Int → Option ((List (S37)))
 | 0,_,_,_,_ => none
 | k + 1,x6,x59,x60,x61 => if x61 < x60 then (if 0 ≤ x61 then (if x61 < (x59.length:Int) then ((rect_Empty.f ((rd_T37 x59 x61).f0) ((rd_T37 x59 x61).f1) ((rd_T37 x59 x61).f2) ((rd_T37 x59 x61).f3)).bind fun t223 => (if t223 = true then (rect_Cut.l0 k x6 x59 x60 (wrap64 (x61 + 1))) else (if x6.length < 4398046511104 then (rect_Cut.l0 k (x6 ++ [(⟨(rd_T37 x59 x61).f0,(rd_T37 x59 x61).f1,(rd_T37 x59 x61).f2,(rd_T37 x59 x61).f3⟩:S37)]) x59 x60 (wrap64 (x61 + 1))) else (none)))) else (none)) else (none)) else (some x6)
end
def rect_Cut.f (k:Nat) (a0_0:Int) (a0_1:Int) (a0_2:Int) (a0_3:Int) (a1_0:Int) (a1_1:Int) (a1_2:Int) (a1_3:Int):Option ((List (S37))):=(rect_Meet.f a0_0 a0_1 a0_2 a0_3 a1_0 a1_1 a1_2 a1_3).bind fun bt212 => ((rect_Empty.f bt212.1 bt212.2.1 bt212.2.2.1 bt212.2.2.2).bind fun t217 => (if t217 = true then (rect_Cut.j0 k a0_0 a0_1 a0_2 a0_3 a0_0 a0_3 a0_2 a0_3) else (rect_Cut.j0 k a0_0 a0_1 a0_2 a0_3 bt212.1 bt212.2.1 bt212.2.2.1 bt212.2.2.2)))
set_option maxHeartbeats 8000000 in
set_option maxRecDepth 100000 in
theorem rect_Cut.calls (k:Nat) (a0_0:Int) (a0_1:Int) (a0_2:Int) (a0_3:Int) (a1_0:Int) (a1_1:Int) (a1_2:Int) (a1_3:Int) (r:List (S37)) (w:World) (h:rect_Cut.f k a0_0 a0_1 a0_2 a0_3 a1_0 a1_1 a1_2 a1_3 = some r) :
  Calls Try.prog 66 #[.agg #[.int .i64 a0_0,.int .i64 a0_1,.int .i64 a0_2,.int .i64 a0_3],.agg #[.int .i64 a1_0,.int .i64 a1_1,.int .i64 a1_2,.int .i64 a1_3]] w fun e w' => ∃ v0_:Value,e = .returned (v0_) ∧ Kd.R k37 37 w' w.heap.size (fun _ => True) v0_ r ∧ Below w.heap.size w w':=by
 have hu37:=Try.underlying37
 have HB:=Aside0.mk (Below.refl w.heap.size w)
 have H:((rect_Meet.f a0_0 a0_1 a0_2 a0_3 a1_0 a1_1 a1_2 a1_3).bind fun bt212 => ((rect_Empty.f bt212.1 bt212.2.1 bt212.2.2.1 bt212.2.2.2).bind fun t217 => (if t217 = true then (rect_Cut.j0 k a0_0 a0_1 a0_2 a0_3 a0_0 a0_3 a0_2 a0_3) else (rect_Cut.j0 k a0_0 a0_1 a0_2 a0_3 bt212.1 bt212.2.1 bt212.2.2.1 bt212.2.2.2)))) = some r:=h
 clear h
 replace H:=Option.bind_eq_some_iff.mp H
 obtain ⟨⟨t212,t213,t214,t215⟩,A30,H⟩:=H
 replace H:((rect_Empty.f t212 t213 t214 t215).bind fun t217 => (if t217 = true then (rect_Cut.j0 k a0_0 a0_1 a0_2 a0_3 a0_0 a0_3 a0_2 a0_3) else (rect_Cut.j0 k a0_0 a0_1 a0_2 a0_3 t212 t213 t214 t215))) = some r:=H
 have A3:=Aside0.mk A30
 clear A30
 replace H:=Option.bind_eq_some_iff.mp H
 obtain ⟨t217,A40,H⟩:=H
 replace H:(if t217 = true then (rect_Cut.j0 k a0_0 a0_1 a0_2 a0_3 a0_0 a0_3 a0_2 a0_3) else (rect_Cut.j0 k a0_0 a0_1 a0_2 a0_3 t212 t213 t214 t215)) = some r:=H
 have A4:=Aside0.mk A40
 clear A40
 have HC5:=Aside0.mk H
 clear H
 go_enter Try.func66,Try.ntmps66
 go_upto_if 13 with (first | ((with_reducible refine gate_dst (N:=2) rfl ?_); refine box_event ?hg (N:=2) ?hd (cs:=#[.int .i64 a0_0,.int .i64 a0_1,.int .i64 a0_2,.int .i64 a0_3]) (t:=37) ?hr ?_; (case hd => rfl); (case hg => rfl); (case hr => first | (go_simp; done) | (go_simp; rfl)); intro gb210 hg w6 hbox hb; have n0_:=Aside0.mk (below_step (by repeat (first | (with_reducible first | exact HB.out | apply below_alloc | apply pw_below_drewN | apply below_drew1) | exact HB.out)) hb); have n1_:=Aside0.mk (hbox); have n2_:=Aside0.mk ((by rw [hg]; exact (below_size (by repeat (first | (with_reducible first | exact HB.out | apply below_alloc | apply pw_below_drewN | apply below_drew1) | exact HB.out))):w.heap.size ≤ gb210)); have n3_:=Aside0.mk ((by rw [hg]; exact (below_size (by repeat (first | (with_reducible first | exact HB.out | apply below_alloc | apply pw_below_drewN | apply below_drew1) | exact HB.out))):w.heap.size ≤ gb210)); clear HB; have HB:=n0_; have BK210:=n1_; have GW210:=n2_; have GE210:=n3_; clear n0_ n1_ n2_ n3_; clear hb hbox hg) | ((with_reducible refine gate_dst (N:=3) rfl ?_); refine box_event ?hg (N:=3) ?hd (cs:=#[.int .i64 a1_0,.int .i64 a1_1,.int .i64 a1_2,.int .i64 a1_3]) (t:=37) ?hr ?_; (case hd => rfl); (case hg => rfl); (case hr => first | (go_simp; done) | (go_simp; rfl)); intro gb211 hg w7 hbox hb; have n0_:=Aside0.mk (blk_below (g:=gb210) (o:=.cells #[.int .i64 a0_0,.int .i64 a0_1,.int .i64 a0_2,.int .i64 a0_3] 37 (0,0)) (by (with_reducible repeat (first | refine blk_drewN ?_ _ | refine blk_drew ?_ | refine blk_alloc ?_ _)); exact BK210.out) hb); have n1_:=Aside0.mk (below_step (by repeat (first | (with_reducible first | exact HB.out | apply below_alloc | apply pw_below_drewN | apply below_drew1 | refine below_set ?_ GE210.out) | exact HB.out)) hb); have n2_:=Aside0.mk (hbox); have n3_:=Aside0.mk ((by rw [hg]; exact (below_size (by repeat (first | (with_reducible first | exact HB.out | apply below_alloc | apply pw_below_drewN | apply below_drew1 | refine below_set ?_ GE210.out) | exact HB.out))):w.heap.size ≤ gb211)); have n4_:=Aside0.mk ((by rw [hg]; exact (below_size (by repeat (first | (with_reducible first | exact HB.out | apply below_alloc | apply pw_below_drewN | apply below_drew1 | refine below_set ?_ GE210.out) | exact HB.out))):w.heap.size ≤ gb211)); have n5_:=Aside0.mk ((by rw [hg]; exact Nat.ne_of_lt (blk_lt (g:=gb210) (o:=.cells #[.int .i64 a0_0,.int .i64 a0_1,.int .i64 a0_2,.int .i64 a0_3] 37 (0,0)) (by (with_reducible repeat (first | refine blk_drewN ?_ _ | refine blk_drew ?_ | refine blk_alloc ?_ _)); exact BK210.out)):gb210 ≠ gb211)); have n6_:=Aside0.mk ((by rw [hg]; exact Nat.ne_of_gt (blk_lt (g:=gb210) (o:=.cells #[.int .i64 a0_0,.int .i64 a0_1,.int .i64 a0_2,.int .i64 a0_3] 37 (0,0)) (by (with_reducible repeat (first | refine blk_drewN ?_ _ | refine blk_drew ?_ | refine blk_alloc ?_ _)); exact BK210.out)):gb211 ≠ gb210)); clear BK210; clear HB; have BK210:=n0_; have HB:=n1_; have BK211:=n2_; have GW211:=n3_; have GE211:=n4_; have NB210_211:=n5_; have NB211_210:=n6_; clear n0_ n1_ n2_ n3_ n4_ n5_ n6_; clear hb hbox hg; have hnb8:=NB210_211.out; have hnc8:=NB211_210.out; have hcz9_0:w7.cell? ⟨gb210,0,none⟩ = some (.int .i64 a0_0):=(blk_cell BK210.out 0).trans rfl; have hcz9_1:w7.cell? ⟨gb210,1,none⟩ = some (.int .i64 a0_1):=(blk_cell BK210.out 1).trans rfl; have hcz9_2:w7.cell? ⟨gb210,2,none⟩ = some (.int .i64 a0_2):=(blk_cell BK210.out 2).trans rfl; have hcz9_3:w7.cell? ⟨gb210,3,none⟩ = some (.int .i64 a0_3):=(blk_cell BK210.out 3).trans rfl; have hfz9_0:=blk_frozen BK210.out 0; have hfz9_1:=blk_frozen BK210.out 1; have hfz9_2:=blk_frozen BK210.out 2; have hfz9_3:=blk_frozen BK210.out 3; have hcz10_0:w7.cell? ⟨gb211,0,none⟩ = some (.int .i64 a1_0):=(blk_cell BK211.out 0).trans rfl; have hcz10_1:w7.cell? ⟨gb211,1,none⟩ = some (.int .i64 a1_1):=(blk_cell BK211.out 1).trans rfl; have hcz10_2:w7.cell? ⟨gb211,2,none⟩ = some (.int .i64 a1_2):=(blk_cell BK211.out 2).trans rfl; have hcz10_3:w7.cell? ⟨gb211,3,none⟩ = some (.int .i64 a1_3):=(blk_cell BK211.out 3).trans rfl; have hfz10_0:=blk_frozen BK211.out 0; have hfz10_1:=blk_frozen BK211.out 1; have hfz10_2:=blk_frozen BK211.out 2; have hfz10_3:=blk_frozen BK211.out 3) | ((with_reducible refine gate_callee (f:=53) rfl ?_); refine goesL_ (some 11) rfl rfl Try.func53 (by kernel_rfl) rfl #[.agg #[.int .i64 a0_0,.int .i64 a0_1,.int .i64 a0_2,.int .i64 a0_3],.agg #[.int .i64 a1_0,.int .i64 a1_1,.int .i64 a1_2,.int .i64 a1_3]] rfl (by (try simp only [List.map_toArray,List.map_cons,List.map_nil]); first | done | rfl | (simp only [List.length_drop,List.length_take]; rfl)) ?_; (with_reducible refine (rect_Meet.calls a0_0 a0_1 a0_2 a0_3 a1_0 a1_1 a1_2 a1_3 t212 t213 t214 t215 _ A3.out).mono ?_); rintro e w11 ⟨rfl,hb⟩; refine ⟨_,rfl,?_⟩; have n0_:=Aside0.mk (blk_below (g:=gb210) (o:=.cells #[.int .i64 a0_0,.int .i64 a0_1,.int .i64 a0_2,.int .i64 a0_3] 37 (0,0)) (by (with_reducible repeat (first | refine blk_drewN ?_ _ | refine blk_drew ?_ | refine blk_alloc ?_ _)); exact BK210.out) hb); have n1_:=Aside0.mk (blk_below (g:=gb211) (o:=.cells #[.int .i64 a1_0,.int .i64 a1_1,.int .i64 a1_2,.int .i64 a1_3] 37 (0,0)) (by (with_reducible repeat (first | refine blk_drewN ?_ _ | refine blk_drew ?_ | refine blk_alloc ?_ _)); exact BK211.out) hb); have n2_:=Aside0.mk (below_step (by repeat (first | (with_reducible first | exact HB.out | apply below_alloc | apply pw_below_drewN | apply below_drew1 | refine below_set ?_ GE210.out | refine below_set ?_ GE211.out) | exact HB.out)) hb); clear BK210; clear BK211; clear HB; have BK210:=n0_; have BK211:=n1_; have HB:=n2_; clear n0_ n1_ n2_; (try clear hb); (try clear hb2); (try clear hk); (try clear hi)) | ((with_reducible refine gate_dst (N:=5) rfl ?_); refine box_event ?hg (N:=5) ?hd (cs:=#[.int .i64 0,.int .i64 0,.int .i64 0,.int .i64 0]) (t:=37) ?hr ?_; (case hd => rfl); (case hg => rfl); (case hr => first | (go_simp; done) | (go_simp; rfl)); intro gb216 hg w12 hbox hb; have n0_:=Aside0.mk (blk_below (g:=gb210) (o:=.cells #[.int .i64 a0_0,.int .i64 a0_1,.int .i64 a0_2,.int .i64 a0_3] 37 (0,0)) (by (with_reducible repeat (first | refine blk_drewN ?_ _ | refine blk_drew ?_ | refine blk_alloc ?_ _)); exact BK210.out) hb); have n1_:=Aside0.mk (blk_below (g:=gb211) (o:=.cells #[.int .i64 a1_0,.int .i64 a1_1,.int .i64 a1_2,.int .i64 a1_3] 37 (0,0)) (by (with_reducible repeat (first | refine blk_drewN ?_ _ | refine blk_drew ?_ | refine blk_alloc ?_ _)); exact BK211.out) hb); have n2_:=Aside0.mk (below_step (by repeat (first | (with_reducible first | exact HB.out | apply below_alloc | apply pw_below_drewN | apply below_drew1 | refine below_set ?_ GE210.out | refine below_set ?_ GE211.out) | exact HB.out)) hb); have n3_:=Aside0.mk (hbox); have n4_:=Aside0.mk ((by rw [hg]; exact (below_size (by repeat (first | (with_reducible first | exact HB.out | apply below_alloc | apply pw_below_drewN | apply below_drew1 | refine below_set ?_ GE210.out | refine below_set ?_ GE211.out) | exact HB.out))):w.heap.size ≤ gb216)); have n5_:=Aside0.mk ((by rw [hg]; exact (below_size (by repeat (first | (with_reducible first | exact HB.out | apply below_alloc | apply pw_below_drewN | apply below_drew1 | refine below_set ?_ GE210.out | refine below_set ?_ GE211.out) | exact HB.out))):w.heap.size ≤ gb216)); have n6_:=Aside0.mk ((by rw [hg]; exact Nat.ne_of_lt (blk_lt (g:=gb210) (o:=.cells #[.int .i64 a0_0,.int .i64 a0_1,.int .i64 a0_2,.int .i64 a0_3] 37 (0,0)) (by (with_reducible repeat (first | refine blk_drewN ?_ _ | refine blk_drew ?_ | refine blk_alloc ?_ _)); exact BK210.out)):gb210 ≠ gb216)); have n7_:=Aside0.mk ((by rw [hg]; exact Nat.ne_of_gt (blk_lt (g:=gb210) (o:=.cells #[.int .i64 a0_0,.int .i64 a0_1,.int .i64 a0_2,.int .i64 a0_3] 37 (0,0)) (by (with_reducible repeat (first | refine blk_drewN ?_ _ | refine blk_drew ?_ | refine blk_alloc ?_ _)); exact BK210.out)):gb216 ≠ gb210)); have n8_:=Aside0.mk ((by rw [hg]; exact Nat.ne_of_lt (blk_lt (g:=gb211) (o:=.cells #[.int .i64 a1_0,.int .i64 a1_1,.int .i64 a1_2,.int .i64 a1_3] 37 (0,0)) (by (with_reducible repeat (first | refine blk_drewN ?_ _ | refine blk_drew ?_ | refine blk_alloc ?_ _)); exact BK211.out)):gb211 ≠ gb216)); have n9_:=Aside0.mk ((by rw [hg]; exact Nat.ne_of_gt (blk_lt (g:=gb211) (o:=.cells #[.int .i64 a1_0,.int .i64 a1_1,.int .i64 a1_2,.int .i64 a1_3] 37 (0,0)) (by (with_reducible repeat (first | refine blk_drewN ?_ _ | refine blk_drew ?_ | refine blk_alloc ?_ _)); exact BK211.out)):gb216 ≠ gb211)); clear BK210; clear BK211; clear HB; have BK210:=n0_; have BK211:=n1_; have HB:=n2_; have BK216:=n3_; have GW216:=n4_; have GE216:=n5_; have NB210_216:=n6_; have NB216_210:=n7_; have NB211_216:=n8_; have NB216_211:=n9_; clear n0_ n1_ n2_ n3_ n4_ n5_ n6_ n7_ n8_ n9_; clear hb hbox hg; have hnb13:=NB216_210.out; have hnc13:=NB210_216.out; have hnb14:=NB216_211.out; have hnc14:=NB211_216.out; have hcz15_0:w12.cell? ⟨gb216,0,none⟩ = some (.int .i64 0):=(blk_cell BK216.out 0).trans rfl; have hcz15_1:w12.cell? ⟨gb216,1,none⟩ = some (.int .i64 0):=(blk_cell BK216.out 1).trans rfl; have hcz15_2:w12.cell? ⟨gb216,2,none⟩ = some (.int .i64 0):=(blk_cell BK216.out 2).trans rfl; have hcz15_3:w12.cell? ⟨gb216,3,none⟩ = some (.int .i64 0):=(blk_cell BK216.out 3).trans rfl; have hfz15_0:=blk_frozen BK216.out 0; have hfz15_1:=blk_frozen BK216.out 1; have hfz15_2:=blk_frozen BK216.out 2; have hfz15_3:=blk_frozen BK216.out 3) | ((with_reducible refine gate_callee (f:=55) rfl ?_); refine goesL_ (some 13) rfl rfl Try.func55 (by kernel_rfl) rfl #[.agg #[.int .i64 t212,.int .i64 t213,.int .i64 t214,.int .i64 t215]] rfl (by (try simp only [List.map_toArray,List.map_cons,List.map_nil]); first | done | rfl | (simp only [List.length_drop,List.length_take]; rfl)) ?_; (with_reducible refine (rect_Empty.calls t212 t213 t214 t215 t217 _ A4.out).mono ?_); rintro e w16 ⟨rfl,hb⟩; refine ⟨_,rfl,?_⟩; have n0_:=Aside0.mk (blk_below (g:=gb210) (o:=.cells #[.int .i64 a0_0,.int .i64 a0_1,.int .i64 a0_2,.int .i64 a0_3] 37 (0,0)) (by (with_reducible repeat (first | refine blk_drewN ?_ _ | refine blk_drew ?_ | refine blk_alloc ?_ _)); refine blk_far ?_ NB210_216.out _; (with_reducible repeat (first | refine blk_drewN ?_ _ | refine blk_drew ?_ | refine blk_alloc ?_ _)); refine blk_far ?_ NB210_216.out _; (with_reducible repeat (first | refine blk_drewN ?_ _ | refine blk_drew ?_ | refine blk_alloc ?_ _)); refine blk_far ?_ NB210_216.out _; (with_reducible repeat (first | refine blk_drewN ?_ _ | refine blk_drew ?_ | refine blk_alloc ?_ _)); refine blk_far ?_ NB210_216.out _; (with_reducible repeat (first | refine blk_drewN ?_ _ | refine blk_drew ?_ | refine blk_alloc ?_ _)); exact BK210.out) hb); have n1_:=Aside0.mk (blk_below (g:=gb211) (o:=.cells #[.int .i64 a1_0,.int .i64 a1_1,.int .i64 a1_2,.int .i64 a1_3] 37 (0,0)) (by (with_reducible repeat (first | refine blk_drewN ?_ _ | refine blk_drew ?_ | refine blk_alloc ?_ _)); refine blk_far ?_ NB211_216.out _; (with_reducible repeat (first | refine blk_drewN ?_ _ | refine blk_drew ?_ | refine blk_alloc ?_ _)); refine blk_far ?_ NB211_216.out _; (with_reducible repeat (first | refine blk_drewN ?_ _ | refine blk_drew ?_ | refine blk_alloc ?_ _)); refine blk_far ?_ NB211_216.out _; (with_reducible repeat (first | refine blk_drewN ?_ _ | refine blk_drew ?_ | refine blk_alloc ?_ _)); refine blk_far ?_ NB211_216.out _; (with_reducible repeat (first | refine blk_drewN ?_ _ | refine blk_drew ?_ | refine blk_alloc ?_ _)); exact BK211.out) hb); have n2_:=Aside0.mk (blk_below (g:=gb216) (o:=.cells #[.int .i64 t212,.int .i64 t213,.int .i64 t214,.int .i64 t215] 37 (0,0)) (by (with_reducible repeat (first | refine blk_drewN ?_ _ | refine blk_drew ?_ | refine blk_alloc ?_ _)); refine blk_put (cs:=#[.int .i64 t212,.int .i64 t213,.int .i64 t214,.int .i64 0]) ?_ 3 _ rfl; (with_reducible repeat (first | refine blk_drewN ?_ _ | refine blk_drew ?_ | refine blk_alloc ?_ _)); refine blk_put (cs:=#[.int .i64 t212,.int .i64 t213,.int .i64 0,.int .i64 0]) ?_ 2 _ rfl; (with_reducible repeat (first | refine blk_drewN ?_ _ | refine blk_drew ?_ | refine blk_alloc ?_ _)); refine blk_put (cs:=#[.int .i64 t212,.int .i64 0,.int .i64 0,.int .i64 0]) ?_ 1 _ rfl; (with_reducible repeat (first | refine blk_drewN ?_ _ | refine blk_drew ?_ | refine blk_alloc ?_ _)); refine blk_put (cs:=#[.int .i64 0,.int .i64 0,.int .i64 0,.int .i64 0]) ?_ 0 _ rfl; (with_reducible repeat (first | refine blk_drewN ?_ _ | refine blk_drew ?_ | refine blk_alloc ?_ _)); exact BK216.out) hb); have n3_:=Aside0.mk (below_step (by repeat (first | (with_reducible first | exact HB.out | apply below_alloc | apply pw_below_drewN | apply below_drew1 | refine below_set ?_ GE210.out | refine below_set ?_ GE211.out | refine below_set ?_ GE216.out) | exact HB.out)) hb); clear BK210; clear BK211; clear BK216; clear HB; have BK210:=n0_; have BK211:=n1_; have BK216:=n2_; have HB:=n3_; clear n0_ n1_ n2_ n3_; (try clear hb); (try clear hb2); (try clear hk); (try clear hi)))
 (try simp only [Act.put,List.setIfInBounds_toArray,List.set_cons_zero,List.set_cons_succ])
 go_cut [] (fun wc => ∃ (kq:Nat) (x217000_4:Int) (x217001_4:Int) (x217002_4:Int) (x217003_4:Int),Aside0 (rect_Cut.j0 kq a0_0 a0_1 a0_2 a0_3 x217000_4 x217001_4 x217002_4 x217003_4 = some r) ∧ Aside0 (kq ≤ k) ∧ Aside0 (wc.heap[gb210]? = some (.cells #[.int .i64 a0_0,.int .i64 a0_1,.int .i64 a0_2,.int .i64 a0_3] 37 (0,0))) ∧ Aside0 (wc.heap[gb211]? = some (.cells #[.int .i64 a1_0,.int .i64 a1_1,.int .i64 a1_2,.int .i64 a1_3] 37 (0,0))) ∧ Aside0 (wc.heap[gb216]? = some (.cells #[.int .i64 x217000_4,.int .i64 x217001_4,.int .i64 x217002_4,.int .i64 x217003_4] 37 (0,0))) ∧ Aside0 (Below w.heap.size w wc))
 case first =>
  have H:=HC5.out
  clear HC5
  by_cases c17:t217 = true
  ·subst c17
   have H1:(rect_Cut.j0 k a0_0 a0_1 a0_2 a0_3 a0_0 a0_3 a0_2 a0_3) = some r:=by rw [if_pos rfl] at H; exact H
   clear H
   have H:=H1
   clear H1
   have H':=Aside0.mk H
   clear H
   have hnb18:=NB210_211.out
   have hnc18:=NB211_210.out
   have hnb19:=NB210_216.out
   have hnc19:=NB216_210.out
   have hcz20_0:w16.cell? ⟨gb210,0,none⟩ = some (.int .i64 a0_0):=(blk_cell BK210.out 0).trans rfl
   have hcz20_1:w16.cell? ⟨gb210,1,none⟩ = some (.int .i64 a0_1):=(blk_cell BK210.out 1).trans rfl
   have hcz20_2:w16.cell? ⟨gb210,2,none⟩ = some (.int .i64 a0_2):=(blk_cell BK210.out 2).trans rfl
   have hcz20_3:w16.cell? ⟨gb210,3,none⟩ = some (.int .i64 a0_3):=(blk_cell BK210.out 3).trans rfl
   have hfz20_0:=blk_frozen BK210.out 0
   have hfz20_1:=blk_frozen BK210.out 1
   have hfz20_2:=blk_frozen BK210.out 2
   have hfz20_3:=blk_frozen BK210.out 3
   have hnb21:=NB216_211.out
   have hnc21:=NB211_216.out
   have hcz22_0:w16.cell? ⟨gb216,0,none⟩ = some (.int .i64 t212):=(blk_cell BK216.out 0).trans rfl
   have hcz22_1:w16.cell? ⟨gb216,1,none⟩ = some (.int .i64 t213):=(blk_cell BK216.out 1).trans rfl
   have hcz22_2:w16.cell? ⟨gb216,2,none⟩ = some (.int .i64 t214):=(blk_cell BK216.out 2).trans rfl
   have hcz22_3:w16.cell? ⟨gb216,3,none⟩ = some (.int .i64 t215):=(blk_cell BK216.out 3).trans rfl
   have hfz22_0:=blk_frozen BK216.out 0
   have hfz22_1:=blk_frozen BK216.out 1
   have hfz22_2:=blk_frozen BK216.out 2
   have hfz22_3:=blk_frozen BK216.out 3
   go_wp2
   go_meet
   case rel => exact ⟨_,(a0_0),(a0_3),(a0_2),(a0_3),H',⟨by first | omega | exact Nat.le_refl _⟩,⟨by (with_reducible repeat (first | refine blk_drewN ?_ _ | refine blk_drew ?_ | refine blk_alloc ?_ _)); refine blk_far ?_ NB210_216.out _; (with_reducible repeat (first | refine blk_drewN ?_ _ | refine blk_drew ?_ | refine blk_alloc ?_ _)); refine blk_far ?_ NB210_216.out _; (with_reducible repeat (first | refine blk_drewN ?_ _ | refine blk_drew ?_ | refine blk_alloc ?_ _)); refine blk_far ?_ NB210_216.out _; (with_reducible repeat (first | refine blk_drewN ?_ _ | refine blk_drew ?_ | refine blk_alloc ?_ _)); refine blk_far ?_ NB210_216.out _; (with_reducible repeat (first | refine blk_drewN ?_ _ | refine blk_drew ?_ | refine blk_alloc ?_ _)); exact BK210.out⟩,⟨by (with_reducible repeat (first | refine blk_drewN ?_ _ | refine blk_drew ?_ | refine blk_alloc ?_ _)); refine blk_far ?_ NB211_216.out _; (with_reducible repeat (first | refine blk_drewN ?_ _ | refine blk_drew ?_ | refine blk_alloc ?_ _)); refine blk_far ?_ NB211_216.out _; (with_reducible repeat (first | refine blk_drewN ?_ _ | refine blk_drew ?_ | refine blk_alloc ?_ _)); refine blk_far ?_ NB211_216.out _; (with_reducible repeat (first | refine blk_drewN ?_ _ | refine blk_drew ?_ | refine blk_alloc ?_ _)); refine blk_far ?_ NB211_216.out _; (with_reducible repeat (first | refine blk_drewN ?_ _ | refine blk_drew ?_ | refine blk_alloc ?_ _)); exact BK211.out⟩,⟨by (with_reducible repeat (first | refine blk_drewN ?_ _ | refine blk_drew ?_ | refine blk_alloc ?_ _)); refine blk_put (cs:=#[.int .i64 a0_0,.int .i64 a0_3,.int .i64 a0_2,.int .i64 t215]) ?_ 3 _ rfl; (with_reducible repeat (first | refine blk_drewN ?_ _ | refine blk_drew ?_ | refine blk_alloc ?_ _)); refine blk_put (cs:=#[.int .i64 a0_0,.int .i64 a0_3,.int .i64 t214,.int .i64 t215]) ?_ 2 _ rfl; (with_reducible repeat (first | refine blk_drewN ?_ _ | refine blk_drew ?_ | refine blk_alloc ?_ _)); refine blk_put (cs:=#[.int .i64 a0_0,.int .i64 t213,.int .i64 t214,.int .i64 t215]) ?_ 1 _ rfl; (with_reducible repeat (first | refine blk_drewN ?_ _ | refine blk_drew ?_ | refine blk_alloc ?_ _)); refine blk_put (cs:=#[.int .i64 t212,.int .i64 t213,.int .i64 t214,.int .i64 t215]) ?_ 0 _ rfl; (with_reducible repeat (first | refine blk_drewN ?_ _ | refine blk_drew ?_ | refine blk_alloc ?_ _)); exact BK216.out⟩,⟨by repeat (first | (with_reducible first | exact HB.out | apply below_alloc | apply pw_below_drewN | apply below_drew1 | refine below_set ?_ GE210.out | refine below_set ?_ GE211.out | refine below_set ?_ GE216.out) | exact HB.out)⟩⟩
  ·replace c17:=Bool.eq_false_iff.mpr c17
   subst c17
   have H1:(rect_Cut.j0 k a0_0 a0_1 a0_2 a0_3 t212 t213 t214 t215) = some r:=by rw [if_neg (show ¬ (false = true) by decide)] at H; exact H
   clear H
   have H:=H1
   clear H1
   have H':=Aside0.mk H
   clear H
   go_wp2
   go_meet
   case rel => exact ⟨_,(t212),(t213),(t214),(t215),H',⟨by first | omega | exact Nat.le_refl _⟩,⟨by (with_reducible repeat (first | refine blk_drewN ?_ _ | refine blk_drew ?_ | refine blk_alloc ?_ _)); exact BK210.out⟩,⟨by (with_reducible repeat (first | refine blk_drewN ?_ _ | refine blk_drew ?_ | refine blk_alloc ?_ _)); exact BK211.out⟩,⟨by (with_reducible repeat (first | refine blk_drewN ?_ _ | refine blk_drew ?_ | refine blk_alloc ?_ _)); exact BK216.out⟩,⟨by repeat (first | (with_reducible first | exact HB.out | apply below_alloc | apply pw_below_drewN | apply below_drew1 | refine below_set ?_ GE210.out | refine below_set ?_ GE211.out | refine below_set ?_ GE216.out) | exact HB.out)⟩⟩
 case rest =>
  clear HC5
  try clear c1
  try clear c2
  try clear p2
  try clear c5
  try clear c6
  try clear c8
  try clear c13
  try clear c14
  try clear c17
  try clear c18
  try clear c19
  try clear c21
  try clear hcz10_0
  try clear hcz10_1
  try clear hcz10_2
  try clear hcz10_3
  try clear hcz15_0
  try clear hcz15_1
  try clear hcz15_2
  try clear hcz15_3
  try clear hcz20_0
  try clear hcz20_1
  try clear hcz20_2
  try clear hcz20_3
  try clear hcz22_0
  try clear hcz22_1
  try clear hcz22_2
  try clear hcz22_3
  try clear hcz9_0
  try clear hcz9_1
  try clear hcz9_2
  try clear hcz9_3
  try clear hfz10_0
  try clear hfz10_1
  try clear hfz10_2
  try clear hfz10_3
  try clear hfz15_0
  try clear hfz15_1
  try clear hfz15_2
  try clear hfz15_3
  try clear hfz20_0
  try clear hfz20_1
  try clear hfz20_2
  try clear hfz20_3
  try clear hfz22_0
  try clear hfz22_1
  try clear hfz22_2
  try clear hfz22_3
  try clear hfz9_0
  try clear hfz9_1
  try clear hfz9_2
  try clear hfz9_3
  obtain ⟨kq,x217000_4,x217001_4,x217002_4,x217003_4,HA,HJ4,BK210,BK211,BK216,HB⟩:=hcut
  cases kq with
  | zero => exact absurd HA.out (by simp [rect_Cut.j0])
  | succ kj4 =>
   have H:=HA.out
   clear HA
   simp only [rect_Cut.j0] at H
   obtain ⟨y218,hy218⟩:∃ y_:List (S37),y_ = (([(⟨a0_0,a0_1,a0_2,x217001_4⟩:S37),(⟨a0_0,x217003_4,a0_2,a0_3⟩:S37),(⟨a0_0,x217001_4,x217000_4,x217003_4⟩:S37),(⟨x217002_4,x217001_4,a0_2,x217003_4⟩:S37)]:List (S37))):=⟨_,rfl⟩
   replace H:(rect_Cut.l0 kj4 ([]:List (S37)) y218 (y218.length:Int) 0) = some r:=by first | (rw [hy218]; with_reducible exact H) | (have H2_:=(Option.bind_some _ _).symm.trans H; rw [hy218]; with_reducible exact H2_) | (have H2_:=(Option.bind_some _ _).symm.trans H; with_reducible exact H2_) | with_reducible exact H | (rw [hy218]; exact H) | exact H
   have Ny218:=Aside0.mk hy218
   clear hy218
   have H':=Aside0.mk H
   clear H
   have hnb23:=NB210_211.out
   have hnc23:=NB211_210.out
   have hnb24:=NB210_216.out
   have hnc24:=NB216_210.out
   have hcz25_0:wc.cell? ⟨gb210,0,none⟩ = some (.int .i64 a0_0):=(blk_cell BK210.out 0).trans rfl
   have hcz25_1:wc.cell? ⟨gb210,1,none⟩ = some (.int .i64 a0_1):=(blk_cell BK210.out 1).trans rfl
   have hcz25_2:wc.cell? ⟨gb210,2,none⟩ = some (.int .i64 a0_2):=(blk_cell BK210.out 2).trans rfl
   have hcz25_3:wc.cell? ⟨gb210,3,none⟩ = some (.int .i64 a0_3):=(blk_cell BK210.out 3).trans rfl
   have hfz25_0:=blk_frozen BK210.out 0
   have hfz25_1:=blk_frozen BK210.out 1
   have hfz25_2:=blk_frozen BK210.out 2
   have hfz25_3:=blk_frozen BK210.out 3
   have hnb26:=NB216_211.out
   have hnc26:=NB211_216.out
   have hcz27_0:wc.cell? ⟨gb216,0,none⟩ = some (.int .i64 x217000_4):=(blk_cell BK216.out 0).trans rfl
   have hcz27_1:wc.cell? ⟨gb216,1,none⟩ = some (.int .i64 x217001_4):=(blk_cell BK216.out 1).trans rfl
   have hcz27_2:wc.cell? ⟨gb216,2,none⟩ = some (.int .i64 x217002_4):=(blk_cell BK216.out 2).trans rfl
   have hcz27_3:wc.cell? ⟨gb216,3,none⟩ = some (.int .i64 x217003_4):=(blk_cell BK216.out 3).trans rfl
   have hfz27_0:=blk_frozen BK216.out 0
   have hfz27_1:=blk_frozen BK216.out 1
   have hfz27_2:=blk_frozen BK216.out 2
   have hfz27_3:=blk_frozen BK216.out 3
   go_wp2_with (first | ((with_reducible refine gate_dst (N:=59) rfl ?_); refine Kd.R_lit k37 _ 37 ?hg (N:=59) ?hd (xs:=([(⟨a0_0,a0_1,a0_2,x217001_4⟩:S37),(⟨a0_0,x217003_4,a0_2,a0_3⟩:S37),(⟨a0_0,x217001_4,x217000_4,x217003_4⟩:S37),(⟨x217002_4,x217001_4,a0_2,x217003_4⟩:S37)]:List (S37))) (inner:=[.int .i64 a0_0,.int .i64 a0_1,.int .i64 a0_2,.int .i64 x217001_4,.int .i64 a0_0,.int .i64 x217003_4,.int .i64 a0_2,.int .i64 a0_3,.int .i64 a0_0,.int .i64 x217001_4,.int .i64 x217000_4,.int .i64 x217003_4,.int .i64 x217002_4,.int .i64 x217001_4,.int .i64 a0_2,.int .i64 x217003_4]) (ok:=fun _ => True) (okp:=fun _ => True) ?hr ?hp (fun _ hk => hk) trivial (Below.refl _ _) (Nat.le_refl _) (by simp) ?_; (case hd => rfl); (case hg => rfl); (case hr => first | (go_simp; done) | (go_simp; rfl)); (case hp => exact (Reps.c4 (show Kd.M k37 _ _ _ (⟨a0_0,a0_1,a0_2,x217001_4⟩:S37) [.int .i64 a0_0,.int .i64 a0_1,.int .i64 a0_2,.int .i64 x217001_4] from (k37_mkM _ _ _ (⟨a0_0,a0_1,a0_2,x217001_4⟩:S37) )) (Reps.c4 (show Kd.M k37 _ _ _ (⟨a0_0,x217003_4,a0_2,a0_3⟩:S37) [.int .i64 a0_0,.int .i64 x217003_4,.int .i64 a0_2,.int .i64 a0_3] from (k37_mkM _ _ _ (⟨a0_0,x217003_4,a0_2,a0_3⟩:S37) )) (Reps.c4 (show Kd.M k37 _ _ _ (⟨a0_0,x217001_4,x217000_4,x217003_4⟩:S37) [.int .i64 a0_0,.int .i64 x217001_4,.int .i64 x217000_4,.int .i64 x217003_4] from (k37_mkM _ _ _ (⟨a0_0,x217001_4,x217000_4,x217003_4⟩:S37) )) (Reps.c4 (show Kd.M k37 _ _ _ (⟨x217002_4,x217001_4,a0_2,x217003_4⟩:S37) [.int .i64 x217002_4,.int .i64 x217001_4,.int .i64 a0_2,.int .i64 x217003_4] from (k37_mkM _ _ _ (⟨x217002_4,x217001_4,a0_2,x217003_4⟩:S37) )) (Reps.none _ _)))))); intro v219 w28 ho29 hb hg_ hnew_; clear hg_ hnew_; (first | rw [← Ny218.out] at ho29 | (simp only [Int.reduceToNat] at ho29; rw [← Ny218.out] at ho29)); have n0_:=Aside0.mk (Kd.R_lower (Kd.R_newB (Kd.R_newB (Kd.R_newB ho29 (g:=gb210) (o:=.cells #[.int .i64 a0_0,.int .i64 a0_1,.int .i64 a0_2,.int .i64 a0_3] 37 (0,0)) (by (with_reducible repeat (first | refine blk_drewN ?_ _ | refine blk_drew ?_ | refine blk_alloc ?_ _)); exact BK210.out)) (g:=gb211) (o:=.cells #[.int .i64 a1_0,.int .i64 a1_1,.int .i64 a1_2,.int .i64 a1_3] 37 (0,0)) (by (with_reducible repeat (first | refine blk_drewN ?_ _ | refine blk_drew ?_ | refine blk_alloc ?_ _)); exact BK211.out)) (g:=gb216) (o:=.cells #[.int .i64 x217000_4,.int .i64 x217001_4,.int .i64 x217002_4,.int .i64 x217003_4] 37 (0,0)) (by (with_reducible repeat (first | refine blk_drewN ?_ _ | refine blk_drew ?_ | refine blk_alloc ?_ _)); exact BK216.out)) (below_size (by repeat (first | (with_reducible first | exact HB.out | apply below_alloc | apply pw_below_drewN | apply below_drew1 | refine below_set ?_ GE210.out | refine below_set ?_ GE211.out | refine below_set ?_ GE216.out) | exact HB.out)))); have n1_:=Aside0.mk (blk_below (g:=gb210) (o:=.cells #[.int .i64 a0_0,.int .i64 a0_1,.int .i64 a0_2,.int .i64 a0_3] 37 (0,0)) (by (with_reducible repeat (first | refine blk_drewN ?_ _ | refine blk_drew ?_ | refine blk_alloc ?_ _)); exact BK210.out) hb); have n2_:=Aside0.mk (blk_below (g:=gb211) (o:=.cells #[.int .i64 a1_0,.int .i64 a1_1,.int .i64 a1_2,.int .i64 a1_3] 37 (0,0)) (by (with_reducible repeat (first | refine blk_drewN ?_ _ | refine blk_drew ?_ | refine blk_alloc ?_ _)); exact BK211.out) hb); have n3_:=Aside0.mk (blk_below (g:=gb216) (o:=.cells #[.int .i64 x217000_4,.int .i64 x217001_4,.int .i64 x217002_4,.int .i64 x217003_4] 37 (0,0)) (by (with_reducible repeat (first | refine blk_drewN ?_ _ | refine blk_drew ?_ | refine blk_alloc ?_ _)); exact BK216.out) hb); have n4_:=Aside0.mk (below_step (by repeat (first | (with_reducible first | exact HB.out | apply below_alloc | apply pw_below_drewN | apply below_drew1 | refine below_set ?_ GE210.out | refine below_set ?_ GE211.out | refine below_set ?_ GE216.out) | exact HB.out)) hb); clear BK210; clear BK211; clear BK216; clear HB; have HO220:=n0_; have BK210:=n1_; have BK211:=n2_; have BK216:=n3_; have HB:=n4_; clear n0_ n1_ n2_ n3_ n4_; clear hb ho29; obtain ⟨Ao30,co30,eo30⟩:=Kd.R_slice HO220.out; subst eo30))
   go_loopg [6,61] kj4 (fun kq v6 v61 w' => ∃ (x6_2:List (S37)) (x61_2:Int),v61 = .int .i64 x61_2 ∧ Aside0 (rect_Cut.l0 kq x6_2 y218 (y218.length:Int) x61_2 = some r) ∧ Aside0 (kq ≤ kj4) ∧ Aside0 (Kd.R k37 37 w' w.heap.size (fun k_ => some k_ ≠ ((.slice Ao30 y218.length co30):Value).ownBlock ∧ k_ ≠ gb210 ∧ k_ ≠ gb211 ∧ k_ ≠ gb216) v6 x6_2) ∧ Aside0 (Kd.R k37 37 w' w.heap.size (fun k_ => some k_ ≠ (v6:Value).ownBlock ∧ k_ ≠ gb210 ∧ k_ ≠ gb211 ∧ k_ ≠ gb216) (.slice Ao30 y218.length co30) y218) ∧ Aside0 (w'.heap[gb210]? = some (.cells #[.int .i64 a0_0,.int .i64 a0_1,.int .i64 a0_2,.int .i64 a0_3] 37 (0,0))) ∧ Aside0 (w'.heap[gb211]? = some (.cells #[.int .i64 a1_0,.int .i64 a1_1,.int .i64 a1_2,.int .i64 a1_3] 37 (0,0))) ∧ Aside0 (w'.heap[gb216]? = some (.cells #[.int .i64 x217000_4,.int .i64 x217001_4,.int .i64 x217002_4,.int .i64 x217003_4] 37 (0,0))) ∧ Aside0 (Below w.heap.size w w'))
   case atStart => exact ⟨(([]:List (S37))),(0),(by first | rfl | (simp; done) | (simp [*]; done)),H',⟨Nat.le_refl _⟩,⟨by first | exact Kd.R_nil _ _ _ _ _ | exact Kd.N_nil _ _ _ _ _ | exact Kd.V_nil _ _ _ _ _ | exact Kd.Q_nil _ _ _ _ _ | exact Kd.S_nil _ _ _ _ _⟩,⟨by (with_reducible repeat (first | apply Kd.R_alloc | apply Kd.R_drewN | apply Kd.R_drew)); exact Kd.R_mono HO220.out (fun _ hk => ⟨(by simp [Value.ownBlock]),⟨hk.1.1.2,⟨hk.1.2,hk.2⟩⟩⟩)⟩,⟨by (with_reducible repeat (first | refine blk_drewN ?_ _ | refine blk_drew ?_ | refine blk_alloc ?_ _)); exact BK210.out⟩,⟨by (with_reducible repeat (first | refine blk_drewN ?_ _ | refine blk_drew ?_ | refine blk_alloc ?_ _)); exact BK211.out⟩,⟨by (with_reducible repeat (first | refine blk_drewN ?_ _ | refine blk_drew ?_ | refine blk_alloc ?_ _)); exact BK216.out⟩,⟨by repeat (first | (with_reducible first | exact HB.out | apply below_alloc | apply pw_below_drewN | apply below_drew1 | refine below_set ?_ GE210.out | refine below_set ?_ GE211.out | refine below_set ?_ GE216.out) | exact HB.out)⟩⟩
   case round =>
    clear H'
    try clear c1
    try clear c2
    try clear p2
    try clear c4
    try clear c5
    try clear c6
    try clear c8
    try clear c13
    try clear c14
    try clear c17
    try clear c18
    try clear c19
    try clear c21
    try clear c23
    try clear c24
    try clear c26
    try clear hcz10_0
    try clear hcz10_1
    try clear hcz10_2
    try clear hcz10_3
    try clear hcz15_0
    try clear hcz15_1
    try clear hcz15_2
    try clear hcz15_3
    try clear hcz20_0
    try clear hcz20_1
    try clear hcz20_2
    try clear hcz20_3
    try clear hcz22_0
    try clear hcz22_1
    try clear hcz22_2
    try clear hcz22_3
    try clear hcz25_0
    try clear hcz25_1
    try clear hcz25_2
    try clear hcz25_3
    try clear hcz27_0
    try clear hcz27_1
    try clear hcz27_2
    try clear hcz27_3
    try clear hcz9_0
    try clear hcz9_1
    try clear hcz9_2
    try clear hcz9_3
    try clear hfz10_0
    try clear hfz10_1
    try clear hfz10_2
    try clear hfz10_3
    try clear hfz15_0
    try clear hfz15_1
    try clear hfz15_2
    try clear hfz15_3
    try clear hfz20_0
    try clear hfz20_1
    try clear hfz20_2
    try clear hfz20_3
    try clear hfz22_0
    try clear hfz22_1
    try clear hfz22_2
    try clear hfz22_3
    try clear hfz25_0
    try clear hfz25_1
    try clear hfz25_2
    try clear hfz25_3
    try clear hfz27_0
    try clear hfz27_1
    try clear hfz27_2
    try clear hfz27_3
    try clear hfz9_0
    try clear hfz9_1
    try clear hfz9_2
    try clear hfz9_3
    try clear p2
    obtain ⟨x6_2,x61_2,rfl,HA,HK2,HO_6,HO_59,BK210,BK211,BK216,HB⟩:=hrel
    cases gk with
    | zero => exact absurd HA.out (by simp [rect_Cut.l0])
    | succ k2 =>
     have H:=HA.out
     clear HA
     simp only [rect_Cut.l0] at H
     by_cases c31:x61_2 < (y218.length:Int)
     ·rw [if_pos c31] at H
      have c31b0:decide (x61_2 < (y218.length:Int)) = true:=decide_eq_true c31
      clear c31
      by_cases c32:0 ≤ x61_2
      ·rw [if_pos c32] at H
       have c32b0:decide (0 ≤ x61_2) = true:=decide_eq_true c32
       clear c32
       by_cases c33:x61_2 < (y218.length:Int)
       ·rw [if_pos c33] at H
        have c33b0:decide (x61_2 < (y218.length:Int)) = true:=decide_eq_true c33
        clear c33
        replace H:=Option.bind_eq_some_iff.mp H
        obtain ⟨t223,A340,H⟩:=H
        replace H:(if t223 = true then (rect_Cut.l0 k2 x6_2 y218 (y218.length:Int) (wrap64 (x61_2 + 1))) else (if x6_2.length < 4398046511104 then (rect_Cut.l0 k2 (x6_2 ++ [(⟨(rd_T37 y218 x61_2).f0,(rd_T37 y218 x61_2).f1,(rd_T37 y218 x61_2).f2,(rd_T37 y218 x61_2).f3⟩:S37)]) y218 (y218.length:Int) (wrap64 (x61_2 + 1))) else (none))) = some r:=H
        have A34:=Aside0.mk A340
        clear A340
        by_cases c35:t223 = true
        ·subst c35
         have H1:(rect_Cut.l0 k2 x6_2 y218 (y218.length:Int) (wrap64 (x61_2 + 1))) = some r:=by rw [if_pos rfl] at H; exact H
         clear H
         have H:=H1
         clear H1
         have H':=Aside0.mk H
         clear H
         have p221:0 ≤ (x61_2:Int):=of_decide_eq_true (by first | (with_reducible assumption) | assumption)
         have q221:x61_2 < (y218.length:Int):=of_decide_eq_true (by first | (with_reducible assumption) | assumption)
         obtain ⟨ad221,e221,hx221_0,hx221_1,hx221_2,hx221_3⟩:=at_T37 (Kd.R_reads' HO_59.out).2.2 x61_2 p221 q221
         cases e221
         replace p221:=eq_true p221
         replace q221:=eq_true q221
         go_wp2_with (first | ((with_reducible refine gate_dst (N:=8) rfl ?_); refine box_event ?hg (N:=8) ?hd (cs:=#[.int .i64 0,.int .i64 0,.int .i64 0,.int .i64 0]) (t:=37) ?hr ?_; (case hd => rfl); (case hg => rfl); (case hr => first | (go_simp; done) | (go_simp; rfl)); intro gb222 hg w36 hbox hb; have n0_:=Aside0.mk (Kd.R_below (Kd.R_elderB (by (with_reducible repeat (first | apply Kd.R_alloc | apply Kd.R_drewN | apply Kd.R_drew)); exact HO_6.out) gb222 (Nat.le_of_eq hg.symm)) hb); have n1_:=Aside0.mk (Kd.R_below (Kd.R_elderB (by (with_reducible repeat (first | apply Kd.R_alloc | apply Kd.R_drewN | apply Kd.R_drew)); exact HO_59.out) gb222 (Nat.le_of_eq hg.symm)) hb); have n2_:=Aside0.mk (blk_below (g:=gb210) (o:=.cells #[.int .i64 a0_0,.int .i64 a0_1,.int .i64 a0_2,.int .i64 a0_3] 37 (0,0)) (by (with_reducible repeat (first | refine blk_drewN ?_ _ | refine blk_drew ?_ | refine blk_alloc ?_ _)); exact BK210.out) hb); have n3_:=Aside0.mk (blk_below (g:=gb211) (o:=.cells #[.int .i64 a1_0,.int .i64 a1_1,.int .i64 a1_2,.int .i64 a1_3] 37 (0,0)) (by (with_reducible repeat (first | refine blk_drewN ?_ _ | refine blk_drew ?_ | refine blk_alloc ?_ _)); exact BK211.out) hb); have n4_:=Aside0.mk (blk_below (g:=gb216) (o:=.cells #[.int .i64 x217000_4,.int .i64 x217001_4,.int .i64 x217002_4,.int .i64 x217003_4] 37 (0,0)) (by (with_reducible repeat (first | refine blk_drewN ?_ _ | refine blk_drew ?_ | refine blk_alloc ?_ _)); exact BK216.out) hb); have n5_:=Aside0.mk (below_step (by repeat (first | (with_reducible first | exact HB.out | apply below_alloc | apply pw_below_drewN | apply below_drew1 | refine below_set ?_ GE210.out | refine below_set ?_ GE211.out | refine below_set ?_ GE216.out) | exact HB.out)) hb); have n6_:=Aside0.mk (hbox); have n7_:=Aside0.mk ((by rw [hg]; exact (below_size (by repeat (first | (with_reducible first | exact HB.out | apply below_alloc | apply pw_below_drewN | apply below_drew1 | refine below_set ?_ GE210.out | refine below_set ?_ GE211.out | refine below_set ?_ GE216.out) | exact HB.out))):w.heap.size ≤ gb222)); have n8_:=Aside0.mk ((by rw [hg]; exact (below_size (by repeat (first | (with_reducible first | exact HB.out | apply below_alloc | apply pw_below_drewN | apply below_drew1 | refine below_set ?_ GE210.out | refine below_set ?_ GE211.out | refine below_set ?_ GE216.out) | exact HB.out))):w.heap.size ≤ gb222)); have n9_:=Aside0.mk ((by rw [hg]; exact Nat.ne_of_lt (blk_lt (g:=gb210) (o:=.cells #[.int .i64 a0_0,.int .i64 a0_1,.int .i64 a0_2,.int .i64 a0_3] 37 (0,0)) (by (with_reducible repeat (first | refine blk_drewN ?_ _ | refine blk_drew ?_ | refine blk_alloc ?_ _)); exact BK210.out)):gb210 ≠ gb222)); have n10_:=Aside0.mk ((by rw [hg]; exact Nat.ne_of_gt (blk_lt (g:=gb210) (o:=.cells #[.int .i64 a0_0,.int .i64 a0_1,.int .i64 a0_2,.int .i64 a0_3] 37 (0,0)) (by (with_reducible repeat (first | refine blk_drewN ?_ _ | refine blk_drew ?_ | refine blk_alloc ?_ _)); exact BK210.out)):gb222 ≠ gb210)); have n11_:=Aside0.mk ((by rw [hg]; exact Nat.ne_of_lt (blk_lt (g:=gb211) (o:=.cells #[.int .i64 a1_0,.int .i64 a1_1,.int .i64 a1_2,.int .i64 a1_3] 37 (0,0)) (by (with_reducible repeat (first | refine blk_drewN ?_ _ | refine blk_drew ?_ | refine blk_alloc ?_ _)); exact BK211.out)):gb211 ≠ gb222)); have n12_:=Aside0.mk ((by rw [hg]; exact Nat.ne_of_gt (blk_lt (g:=gb211) (o:=.cells #[.int .i64 a1_0,.int .i64 a1_1,.int .i64 a1_2,.int .i64 a1_3] 37 (0,0)) (by (with_reducible repeat (first | refine blk_drewN ?_ _ | refine blk_drew ?_ | refine blk_alloc ?_ _)); exact BK211.out)):gb222 ≠ gb211)); have n13_:=Aside0.mk ((by rw [hg]; exact Nat.ne_of_lt (blk_lt (g:=gb216) (o:=.cells #[.int .i64 x217000_4,.int .i64 x217001_4,.int .i64 x217002_4,.int .i64 x217003_4] 37 (0,0)) (by (with_reducible repeat (first | refine blk_drewN ?_ _ | refine blk_drew ?_ | refine blk_alloc ?_ _)); exact BK216.out)):gb216 ≠ gb222)); have n14_:=Aside0.mk ((by rw [hg]; exact Nat.ne_of_gt (blk_lt (g:=gb216) (o:=.cells #[.int .i64 x217000_4,.int .i64 x217001_4,.int .i64 x217002_4,.int .i64 x217003_4] 37 (0,0)) (by (with_reducible repeat (first | refine blk_drewN ?_ _ | refine blk_drew ?_ | refine blk_alloc ?_ _)); exact BK216.out)):gb222 ≠ gb216)); clear HO_6; clear HO_59; clear BK210; clear BK211; clear BK216; clear HB; have HO_6:=n0_; have HO_59:=n1_; have BK210:=n2_; have BK211:=n3_; have BK216:=n4_; have HB:=n5_; have BK222:=n6_; have GW222:=n7_; have GE222:=n8_; have NB210_222:=n9_; have NB222_210:=n10_; have NB211_222:=n11_; have NB222_211:=n12_; have NB216_222:=n13_; have NB222_216:=n14_; clear n0_ n1_ n2_ n3_ n4_ n5_ n6_ n7_ n8_ n9_ n10_ n11_ n12_ n13_ n14_; clear hb hbox hg; have hnb37:=NB222_210.out; have hnc37:=NB210_222.out; have hnb38:=NB222_211.out; have hnc38:=NB211_222.out; have hnb39:=NB222_216.out; have hnc39:=NB216_222.out; have hcz40_0:w36.cell? ⟨gb222,0,none⟩ = some (.int .i64 0):=(blk_cell BK222.out 0).trans rfl; have hcz40_1:w36.cell? ⟨gb222,1,none⟩ = some (.int .i64 0):=(blk_cell BK222.out 1).trans rfl; have hcz40_2:w36.cell? ⟨gb222,2,none⟩ = some (.int .i64 0):=(blk_cell BK222.out 2).trans rfl; have hcz40_3:w36.cell? ⟨gb222,3,none⟩ = some (.int .i64 0):=(blk_cell BK222.out 3).trans rfl; have hfz40_0:=blk_frozen BK222.out 0; have hfz40_1:=blk_frozen BK222.out 1; have hfz40_2:=blk_frozen BK222.out 2; have hfz40_3:=blk_frozen BK222.out 3) | ((with_reducible refine gate_callee (f:=55) rfl ?_); refine goesL_ (some 66) rfl rfl Try.func55 (by kernel_rfl) rfl #[.agg #[.int .i64 ((rd_T37 y218 x61_2).f0),.int .i64 ((rd_T37 y218 x61_2).f1),.int .i64 ((rd_T37 y218 x61_2).f2),.int .i64 ((rd_T37 y218 x61_2).f3)]] rfl (by (try simp only [List.map_toArray,List.map_cons,List.map_nil]); first | done | rfl | (simp only [List.length_drop,List.length_take]; rfl)) ?_; (with_reducible refine (rect_Empty.calls ((rd_T37 y218 x61_2).f0) ((rd_T37 y218 x61_2).f1) ((rd_T37 y218 x61_2).f2) ((rd_T37 y218 x61_2).f3) true _ A34.out).mono ?_); rintro e w41 ⟨rfl,hb⟩; refine ⟨_,rfl,?_⟩; have n0_:=Aside0.mk (Kd.R_below (by (with_reducible repeat (first | apply Kd.R_alloc | apply Kd.R_drewN | apply Kd.R_drew)); exact (Kd.R_mono (Kd.R_far (p:=⟨gb222,3,none⟩) (Kd.R_far (p:=⟨gb222,2,none⟩) (Kd.R_far (p:=⟨gb222,1,none⟩) (Kd.R_far (p:=⟨gb222,0,none⟩) (Kd.R_mono HO_6.out (fun k_ hk => (⟨hk,hk.2⟩:_ ∧ k_ ≠ gb222))) (fun _ hk => hk.2) (.int .i64 ((rd_T37 y218 x61_2).f0))) (fun _ hk => hk.2) (.int .i64 ((rd_T37 y218 x61_2).f1))) (fun _ hk => hk.2) (.int .i64 ((rd_T37 y218 x61_2).f2))) (fun _ hk => hk.2) (.int .i64 ((rd_T37 y218 x61_2).f3))) (fun _ h_ => h_.1))) hb); have n1_:=Aside0.mk (Kd.R_below (by (with_reducible repeat (first | apply Kd.R_alloc | apply Kd.R_drewN | apply Kd.R_drew)); exact (Kd.R_mono (Kd.R_far (p:=⟨gb222,3,none⟩) (Kd.R_far (p:=⟨gb222,2,none⟩) (Kd.R_far (p:=⟨gb222,1,none⟩) (Kd.R_far (p:=⟨gb222,0,none⟩) (Kd.R_mono HO_59.out (fun k_ hk => (⟨hk,hk.2⟩:_ ∧ k_ ≠ gb222))) (fun _ hk => hk.2) (.int .i64 ((rd_T37 y218 x61_2).f0))) (fun _ hk => hk.2) (.int .i64 ((rd_T37 y218 x61_2).f1))) (fun _ hk => hk.2) (.int .i64 ((rd_T37 y218 x61_2).f2))) (fun _ hk => hk.2) (.int .i64 ((rd_T37 y218 x61_2).f3))) (fun _ h_ => h_.1))) hb); have n2_:=Aside0.mk (blk_below (g:=gb210) (o:=.cells #[.int .i64 a0_0,.int .i64 a0_1,.int .i64 a0_2,.int .i64 a0_3] 37 (0,0)) (by (with_reducible repeat (first | refine blk_drewN ?_ _ | refine blk_drew ?_ | refine blk_alloc ?_ _)); refine blk_far ?_ NB210_222.out _; (with_reducible repeat (first | refine blk_drewN ?_ _ | refine blk_drew ?_ | refine blk_alloc ?_ _)); refine blk_far ?_ NB210_222.out _; (with_reducible repeat (first | refine blk_drewN ?_ _ | refine blk_drew ?_ | refine blk_alloc ?_ _)); refine blk_far ?_ NB210_222.out _; (with_reducible repeat (first | refine blk_drewN ?_ _ | refine blk_drew ?_ | refine blk_alloc ?_ _)); refine blk_far ?_ NB210_222.out _; (with_reducible repeat (first | refine blk_drewN ?_ _ | refine blk_drew ?_ | refine blk_alloc ?_ _)); exact BK210.out) hb); have n3_:=Aside0.mk (blk_below (g:=gb211) (o:=.cells #[.int .i64 a1_0,.int .i64 a1_1,.int .i64 a1_2,.int .i64 a1_3] 37 (0,0)) (by (with_reducible repeat (first | refine blk_drewN ?_ _ | refine blk_drew ?_ | refine blk_alloc ?_ _)); refine blk_far ?_ NB211_222.out _; (with_reducible repeat (first | refine blk_drewN ?_ _ | refine blk_drew ?_ | refine blk_alloc ?_ _)); refine blk_far ?_ NB211_222.out _; (with_reducible repeat (first | refine blk_drewN ?_ _ | refine blk_drew ?_ | refine blk_alloc ?_ _)); refine blk_far ?_ NB211_222.out _; (with_reducible repeat (first | refine blk_drewN ?_ _ | refine blk_drew ?_ | refine blk_alloc ?_ _)); refine blk_far ?_ NB211_222.out _; (with_reducible repeat (first | refine blk_drewN ?_ _ | refine blk_drew ?_ | refine blk_alloc ?_ _)); exact BK211.out) hb); have n4_:=Aside0.mk (blk_below (g:=gb216) (o:=.cells #[.int .i64 x217000_4,.int .i64 x217001_4,.int .i64 x217002_4,.int .i64 x217003_4] 37 (0,0)) (by (with_reducible repeat (first | refine blk_drewN ?_ _ | refine blk_drew ?_ | refine blk_alloc ?_ _)); refine blk_far ?_ NB216_222.out _; (with_reducible repeat (first | refine blk_drewN ?_ _ | refine blk_drew ?_ | refine blk_alloc ?_ _)); refine blk_far ?_ NB216_222.out _; (with_reducible repeat (first | refine blk_drewN ?_ _ | refine blk_drew ?_ | refine blk_alloc ?_ _)); refine blk_far ?_ NB216_222.out _; (with_reducible repeat (first | refine blk_drewN ?_ _ | refine blk_drew ?_ | refine blk_alloc ?_ _)); refine blk_far ?_ NB216_222.out _; (with_reducible repeat (first | refine blk_drewN ?_ _ | refine blk_drew ?_ | refine blk_alloc ?_ _)); exact BK216.out) hb); have n5_:=Aside0.mk (blk_below (g:=gb222) (o:=.cells #[.int .i64 ((rd_T37 y218 x61_2).f0),.int .i64 ((rd_T37 y218 x61_2).f1),.int .i64 ((rd_T37 y218 x61_2).f2),.int .i64 ((rd_T37 y218 x61_2).f3)] 37 (0,0)) (by (with_reducible repeat (first | refine blk_drewN ?_ _ | refine blk_drew ?_ | refine blk_alloc ?_ _)); refine blk_put (cs:=#[.int .i64 ((rd_T37 y218 x61_2).f0),.int .i64 ((rd_T37 y218 x61_2).f1),.int .i64 ((rd_T37 y218 x61_2).f2),.int .i64 0]) ?_ 3 _ rfl; (with_reducible repeat (first | refine blk_drewN ?_ _ | refine blk_drew ?_ | refine blk_alloc ?_ _)); refine blk_put (cs:=#[.int .i64 ((rd_T37 y218 x61_2).f0),.int .i64 ((rd_T37 y218 x61_2).f1),.int .i64 0,.int .i64 0]) ?_ 2 _ rfl; (with_reducible repeat (first | refine blk_drewN ?_ _ | refine blk_drew ?_ | refine blk_alloc ?_ _)); refine blk_put (cs:=#[.int .i64 ((rd_T37 y218 x61_2).f0),.int .i64 0,.int .i64 0,.int .i64 0]) ?_ 1 _ rfl; (with_reducible repeat (first | refine blk_drewN ?_ _ | refine blk_drew ?_ | refine blk_alloc ?_ _)); refine blk_put (cs:=#[.int .i64 0,.int .i64 0,.int .i64 0,.int .i64 0]) ?_ 0 _ rfl; (with_reducible repeat (first | refine blk_drewN ?_ _ | refine blk_drew ?_ | refine blk_alloc ?_ _)); exact BK222.out) hb); have n6_:=Aside0.mk (below_step (by repeat (first | (with_reducible first | exact HB.out | apply below_alloc | apply pw_below_drewN | apply below_drew1 | refine below_set ?_ GE210.out | refine below_set ?_ GE211.out | refine below_set ?_ GE216.out | refine below_set ?_ GE222.out) | exact HB.out)) hb); clear HO_6; clear HO_59; clear BK210; clear BK211; clear BK216; clear BK222; clear HB; have HO_6:=n0_; have HO_59:=n1_; have BK210:=n2_; have BK211:=n3_; have BK216:=n4_; have BK222:=n5_; have HB:=n6_; clear n0_ n1_ n2_ n3_ n4_ n5_ n6_; (try clear hb); (try clear hb2); (try clear hk); (try clear hi)))
         go_roundg k2
         case measure => have:=HJ4.out; have:=HK2.out; omega
         case rel => exact ⟨(x6_2),(wrap64 (x61_2 + 1)),(by first | rfl | (simp; done) | (simp [*]; done)),H',⟨by have:=HJ4.out; have:=HK2.out; omega⟩,⟨by (with_reducible repeat (first | apply Kd.R_alloc | apply Kd.R_drewN | apply Kd.R_drew)); exact Kd.R_mono HO_6.out (fun _ hk => ⟨hk.1.1,⟨hk.1.2.1,⟨hk.1.2.2.1,hk.1.2.2.2⟩⟩⟩)⟩,⟨by (with_reducible repeat (first | apply Kd.R_alloc | apply Kd.R_drewN | apply Kd.R_drew)); exact Kd.R_mono HO_59.out (fun _ hk => ⟨hk.1.1,⟨hk.1.2.1,⟨hk.1.2.2.1,hk.1.2.2.2⟩⟩⟩)⟩,⟨by (with_reducible repeat (first | refine blk_drewN ?_ _ | refine blk_drew ?_ | refine blk_alloc ?_ _)); exact BK210.out⟩,⟨by (with_reducible repeat (first | refine blk_drewN ?_ _ | refine blk_drew ?_ | refine blk_alloc ?_ _)); exact BK211.out⟩,⟨by (with_reducible repeat (first | refine blk_drewN ?_ _ | refine blk_drew ?_ | refine blk_alloc ?_ _)); exact BK216.out⟩,⟨by repeat (first | (with_reducible first | exact HB.out | apply below_alloc | apply pw_below_drewN | apply below_drew1 | refine below_set ?_ GE210.out | refine below_set ?_ GE211.out | refine below_set ?_ GE216.out | refine below_set ?_ GE222.out) | exact HB.out)⟩⟩
        ·replace c35:=Bool.eq_false_iff.mpr c35
         subst c35
         have H1:(if x6_2.length < 4398046511104 then (rect_Cut.l0 k2 (x6_2 ++ [(⟨(rd_T37 y218 x61_2).f0,(rd_T37 y218 x61_2).f1,(rd_T37 y218 x61_2).f2,(rd_T37 y218 x61_2).f3⟩:S37)]) y218 (y218.length:Int) (wrap64 (x61_2 + 1))) else (none)) = some r:=by rw [if_neg (show ¬ (false = true) by decide)] at H; exact H
         clear H
         have H:=H1
         clear H1
         by_cases c42:x6_2.length < 4398046511104
         ·rw [if_pos c42] at H
          have LMc42:=Aside0.mk c42
          clear c42
          obtain ⟨y224,hy224⟩:∃ y_:List (S37),y_ = (x6_2 ++ [(⟨(rd_T37 y218 x61_2).f0,(rd_T37 y218 x61_2).f1,(rd_T37 y218 x61_2).f2,(rd_T37 y218 x61_2).f3⟩:S37)]):=⟨_,rfl⟩
          replace H:(rect_Cut.l0 k2 y224 y218 (y218.length:Int) (wrap64 (x61_2 + 1))) = some r:=by first | (rw [hy224]; with_reducible exact H) | (have H2_:=(Option.bind_some _ _).symm.trans H; rw [hy224]; with_reducible exact H2_) | (have H2_:=(Option.bind_some _ _).symm.trans H; with_reducible exact H2_) | with_reducible exact H | (rw [hy224]; exact H) | exact H
          have Ny224:=Aside0.mk hy224
          clear hy224
          have H':=Aside0.mk H
          clear H
          have p221:0 ≤ (x61_2:Int):=of_decide_eq_true (by first | (with_reducible assumption) | assumption)
          have q221:x61_2 < (y218.length:Int):=of_decide_eq_true (by first | (with_reducible assumption) | assumption)
          obtain ⟨ad221,e221,hx221_0,hx221_1,hx221_2,hx221_3⟩:=at_T37 (Kd.R_reads' HO_59.out).2.2 x61_2 p221 q221
          cases e221
          replace p221:=eq_true p221
          replace q221:=eq_true q221
          go_wp2_with (first | ((with_reducible refine gate_dst (N:=8) rfl ?_); refine box_event ?hg (N:=8) ?hd (cs:=#[.int .i64 0,.int .i64 0,.int .i64 0,.int .i64 0]) (t:=37) ?hr ?_; (case hd => rfl); (case hg => rfl); (case hr => first | (go_simp; done) | (go_simp; rfl)); intro gb222 hg w43 hbox hb; have n0_:=Aside0.mk (Kd.R_below (Kd.R_elderB (by (with_reducible repeat (first | apply Kd.R_alloc | apply Kd.R_drewN | apply Kd.R_drew)); exact HO_6.out) gb222 (Nat.le_of_eq hg.symm)) hb); have n1_:=Aside0.mk (Kd.R_below (Kd.R_elderB (by (with_reducible repeat (first | apply Kd.R_alloc | apply Kd.R_drewN | apply Kd.R_drew)); exact HO_59.out) gb222 (Nat.le_of_eq hg.symm)) hb); have n2_:=Aside0.mk (blk_below (g:=gb210) (o:=.cells #[.int .i64 a0_0,.int .i64 a0_1,.int .i64 a0_2,.int .i64 a0_3] 37 (0,0)) (by (with_reducible repeat (first | refine blk_drewN ?_ _ | refine blk_drew ?_ | refine blk_alloc ?_ _)); exact BK210.out) hb); have n3_:=Aside0.mk (blk_below (g:=gb211) (o:=.cells #[.int .i64 a1_0,.int .i64 a1_1,.int .i64 a1_2,.int .i64 a1_3] 37 (0,0)) (by (with_reducible repeat (first | refine blk_drewN ?_ _ | refine blk_drew ?_ | refine blk_alloc ?_ _)); exact BK211.out) hb); have n4_:=Aside0.mk (blk_below (g:=gb216) (o:=.cells #[.int .i64 x217000_4,.int .i64 x217001_4,.int .i64 x217002_4,.int .i64 x217003_4] 37 (0,0)) (by (with_reducible repeat (first | refine blk_drewN ?_ _ | refine blk_drew ?_ | refine blk_alloc ?_ _)); exact BK216.out) hb); have n5_:=Aside0.mk (below_step (by repeat (first | (with_reducible first | exact HB.out | apply below_alloc | apply pw_below_drewN | apply below_drew1 | refine below_set ?_ GE210.out | refine below_set ?_ GE211.out | refine below_set ?_ GE216.out) | exact HB.out)) hb); have n6_:=Aside0.mk (hbox); have n7_:=Aside0.mk ((by rw [hg]; exact (below_size (by repeat (first | (with_reducible first | exact HB.out | apply below_alloc | apply pw_below_drewN | apply below_drew1 | refine below_set ?_ GE210.out | refine below_set ?_ GE211.out | refine below_set ?_ GE216.out) | exact HB.out))):w.heap.size ≤ gb222)); have n8_:=Aside0.mk ((by rw [hg]; exact (below_size (by repeat (first | (with_reducible first | exact HB.out | apply below_alloc | apply pw_below_drewN | apply below_drew1 | refine below_set ?_ GE210.out | refine below_set ?_ GE211.out | refine below_set ?_ GE216.out) | exact HB.out))):w.heap.size ≤ gb222)); have n9_:=Aside0.mk ((by rw [hg]; exact Nat.ne_of_lt (blk_lt (g:=gb210) (o:=.cells #[.int .i64 a0_0,.int .i64 a0_1,.int .i64 a0_2,.int .i64 a0_3] 37 (0,0)) (by (with_reducible repeat (first | refine blk_drewN ?_ _ | refine blk_drew ?_ | refine blk_alloc ?_ _)); exact BK210.out)):gb210 ≠ gb222)); have n10_:=Aside0.mk ((by rw [hg]; exact Nat.ne_of_gt (blk_lt (g:=gb210) (o:=.cells #[.int .i64 a0_0,.int .i64 a0_1,.int .i64 a0_2,.int .i64 a0_3] 37 (0,0)) (by (with_reducible repeat (first | refine blk_drewN ?_ _ | refine blk_drew ?_ | refine blk_alloc ?_ _)); exact BK210.out)):gb222 ≠ gb210)); have n11_:=Aside0.mk ((by rw [hg]; exact Nat.ne_of_lt (blk_lt (g:=gb211) (o:=.cells #[.int .i64 a1_0,.int .i64 a1_1,.int .i64 a1_2,.int .i64 a1_3] 37 (0,0)) (by (with_reducible repeat (first | refine blk_drewN ?_ _ | refine blk_drew ?_ | refine blk_alloc ?_ _)); exact BK211.out)):gb211 ≠ gb222)); have n12_:=Aside0.mk ((by rw [hg]; exact Nat.ne_of_gt (blk_lt (g:=gb211) (o:=.cells #[.int .i64 a1_0,.int .i64 a1_1,.int .i64 a1_2,.int .i64 a1_3] 37 (0,0)) (by (with_reducible repeat (first | refine blk_drewN ?_ _ | refine blk_drew ?_ | refine blk_alloc ?_ _)); exact BK211.out)):gb222 ≠ gb211)); have n13_:=Aside0.mk ((by rw [hg]; exact Nat.ne_of_lt (blk_lt (g:=gb216) (o:=.cells #[.int .i64 x217000_4,.int .i64 x217001_4,.int .i64 x217002_4,.int .i64 x217003_4] 37 (0,0)) (by (with_reducible repeat (first | refine blk_drewN ?_ _ | refine blk_drew ?_ | refine blk_alloc ?_ _)); exact BK216.out)):gb216 ≠ gb222)); have n14_:=Aside0.mk ((by rw [hg]; exact Nat.ne_of_gt (blk_lt (g:=gb216) (o:=.cells #[.int .i64 x217000_4,.int .i64 x217001_4,.int .i64 x217002_4,.int .i64 x217003_4] 37 (0,0)) (by (with_reducible repeat (first | refine blk_drewN ?_ _ | refine blk_drew ?_ | refine blk_alloc ?_ _)); exact BK216.out)):gb222 ≠ gb216)); clear HO_6; clear HO_59; clear BK210; clear BK211; clear BK216; clear HB; have HO_6:=n0_; have HO_59:=n1_; have BK210:=n2_; have BK211:=n3_; have BK216:=n4_; have HB:=n5_; have BK222:=n6_; have GW222:=n7_; have GE222:=n8_; have NB210_222:=n9_; have NB222_210:=n10_; have NB211_222:=n11_; have NB222_211:=n12_; have NB216_222:=n13_; have NB222_216:=n14_; clear n0_ n1_ n2_ n3_ n4_ n5_ n6_ n7_ n8_ n9_ n10_ n11_ n12_ n13_ n14_; clear hb hbox hg; have hnb44:=NB222_210.out; have hnc44:=NB210_222.out; have hnb45:=NB222_211.out; have hnc45:=NB211_222.out; have hnb46:=NB222_216.out; have hnc46:=NB216_222.out; have hcz47_0:w43.cell? ⟨gb222,0,none⟩ = some (.int .i64 0):=(blk_cell BK222.out 0).trans rfl; have hcz47_1:w43.cell? ⟨gb222,1,none⟩ = some (.int .i64 0):=(blk_cell BK222.out 1).trans rfl; have hcz47_2:w43.cell? ⟨gb222,2,none⟩ = some (.int .i64 0):=(blk_cell BK222.out 2).trans rfl; have hcz47_3:w43.cell? ⟨gb222,3,none⟩ = some (.int .i64 0):=(blk_cell BK222.out 3).trans rfl; have hfz47_0:=blk_frozen BK222.out 0; have hfz47_1:=blk_frozen BK222.out 1; have hfz47_2:=blk_frozen BK222.out 2; have hfz47_3:=blk_frozen BK222.out 3) | ((with_reducible refine gate_callee (f:=55) rfl ?_); refine goesL_ (some 66) rfl rfl Try.func55 (by kernel_rfl) rfl #[.agg #[.int .i64 ((rd_T37 y218 x61_2).f0),.int .i64 ((rd_T37 y218 x61_2).f1),.int .i64 ((rd_T37 y218 x61_2).f2),.int .i64 ((rd_T37 y218 x61_2).f3)]] rfl (by (try simp only [List.map_toArray,List.map_cons,List.map_nil]); first | done | rfl | (simp only [List.length_drop,List.length_take]; rfl)) ?_; (with_reducible refine (rect_Empty.calls ((rd_T37 y218 x61_2).f0) ((rd_T37 y218 x61_2).f1) ((rd_T37 y218 x61_2).f2) ((rd_T37 y218 x61_2).f3) false _ A34.out).mono ?_); rintro e w48 ⟨rfl,hb⟩; refine ⟨_,rfl,?_⟩; have n0_:=Aside0.mk (Kd.R_below (by (with_reducible repeat (first | apply Kd.R_alloc | apply Kd.R_drewN | apply Kd.R_drew)); exact (Kd.R_mono (Kd.R_far (p:=⟨gb222,3,none⟩) (Kd.R_far (p:=⟨gb222,2,none⟩) (Kd.R_far (p:=⟨gb222,1,none⟩) (Kd.R_far (p:=⟨gb222,0,none⟩) (Kd.R_mono HO_6.out (fun k_ hk => (⟨hk,hk.2⟩:_ ∧ k_ ≠ gb222))) (fun _ hk => hk.2) (.int .i64 ((rd_T37 y218 x61_2).f0))) (fun _ hk => hk.2) (.int .i64 ((rd_T37 y218 x61_2).f1))) (fun _ hk => hk.2) (.int .i64 ((rd_T37 y218 x61_2).f2))) (fun _ hk => hk.2) (.int .i64 ((rd_T37 y218 x61_2).f3))) (fun _ h_ => h_.1))) hb); have n1_:=Aside0.mk (Kd.R_below (by (with_reducible repeat (first | apply Kd.R_alloc | apply Kd.R_drewN | apply Kd.R_drew)); exact (Kd.R_mono (Kd.R_far (p:=⟨gb222,3,none⟩) (Kd.R_far (p:=⟨gb222,2,none⟩) (Kd.R_far (p:=⟨gb222,1,none⟩) (Kd.R_far (p:=⟨gb222,0,none⟩) (Kd.R_mono HO_59.out (fun k_ hk => (⟨hk,hk.2⟩:_ ∧ k_ ≠ gb222))) (fun _ hk => hk.2) (.int .i64 ((rd_T37 y218 x61_2).f0))) (fun _ hk => hk.2) (.int .i64 ((rd_T37 y218 x61_2).f1))) (fun _ hk => hk.2) (.int .i64 ((rd_T37 y218 x61_2).f2))) (fun _ hk => hk.2) (.int .i64 ((rd_T37 y218 x61_2).f3))) (fun _ h_ => h_.1))) hb); have n2_:=Aside0.mk (blk_below (g:=gb210) (o:=.cells #[.int .i64 a0_0,.int .i64 a0_1,.int .i64 a0_2,.int .i64 a0_3] 37 (0,0)) (by (with_reducible repeat (first | refine blk_drewN ?_ _ | refine blk_drew ?_ | refine blk_alloc ?_ _)); refine blk_far ?_ NB210_222.out _; (with_reducible repeat (first | refine blk_drewN ?_ _ | refine blk_drew ?_ | refine blk_alloc ?_ _)); refine blk_far ?_ NB210_222.out _; (with_reducible repeat (first | refine blk_drewN ?_ _ | refine blk_drew ?_ | refine blk_alloc ?_ _)); refine blk_far ?_ NB210_222.out _; (with_reducible repeat (first | refine blk_drewN ?_ _ | refine blk_drew ?_ | refine blk_alloc ?_ _)); refine blk_far ?_ NB210_222.out _; (with_reducible repeat (first | refine blk_drewN ?_ _ | refine blk_drew ?_ | refine blk_alloc ?_ _)); exact BK210.out) hb); have n3_:=Aside0.mk (blk_below (g:=gb211) (o:=.cells #[.int .i64 a1_0,.int .i64 a1_1,.int .i64 a1_2,.int .i64 a1_3] 37 (0,0)) (by (with_reducible repeat (first | refine blk_drewN ?_ _ | refine blk_drew ?_ | refine blk_alloc ?_ _)); refine blk_far ?_ NB211_222.out _; (with_reducible repeat (first | refine blk_drewN ?_ _ | refine blk_drew ?_ | refine blk_alloc ?_ _)); refine blk_far ?_ NB211_222.out _; (with_reducible repeat (first | refine blk_drewN ?_ _ | refine blk_drew ?_ | refine blk_alloc ?_ _)); refine blk_far ?_ NB211_222.out _; (with_reducible repeat (first | refine blk_drewN ?_ _ | refine blk_drew ?_ | refine blk_alloc ?_ _)); refine blk_far ?_ NB211_222.out _; (with_reducible repeat (first | refine blk_drewN ?_ _ | refine blk_drew ?_ | refine blk_alloc ?_ _)); exact BK211.out) hb); have n4_:=Aside0.mk (blk_below (g:=gb216) (o:=.cells #[.int .i64 x217000_4,.int .i64 x217001_4,.int .i64 x217002_4,.int .i64 x217003_4] 37 (0,0)) (by (with_reducible repeat (first | refine blk_drewN ?_ _ | refine blk_drew ?_ | refine blk_alloc ?_ _)); refine blk_far ?_ NB216_222.out _; (with_reducible repeat (first | refine blk_drewN ?_ _ | refine blk_drew ?_ | refine blk_alloc ?_ _)); refine blk_far ?_ NB216_222.out _; (with_reducible repeat (first | refine blk_drewN ?_ _ | refine blk_drew ?_ | refine blk_alloc ?_ _)); refine blk_far ?_ NB216_222.out _; (with_reducible repeat (first | refine blk_drewN ?_ _ | refine blk_drew ?_ | refine blk_alloc ?_ _)); refine blk_far ?_ NB216_222.out _; (with_reducible repeat (first | refine blk_drewN ?_ _ | refine blk_drew ?_ | refine blk_alloc ?_ _)); exact BK216.out) hb); have n5_:=Aside0.mk (blk_below (g:=gb222) (o:=.cells #[.int .i64 ((rd_T37 y218 x61_2).f0),.int .i64 ((rd_T37 y218 x61_2).f1),.int .i64 ((rd_T37 y218 x61_2).f2),.int .i64 ((rd_T37 y218 x61_2).f3)] 37 (0,0)) (by (with_reducible repeat (first | refine blk_drewN ?_ _ | refine blk_drew ?_ | refine blk_alloc ?_ _)); refine blk_put (cs:=#[.int .i64 ((rd_T37 y218 x61_2).f0),.int .i64 ((rd_T37 y218 x61_2).f1),.int .i64 ((rd_T37 y218 x61_2).f2),.int .i64 0]) ?_ 3 _ rfl; (with_reducible repeat (first | refine blk_drewN ?_ _ | refine blk_drew ?_ | refine blk_alloc ?_ _)); refine blk_put (cs:=#[.int .i64 ((rd_T37 y218 x61_2).f0),.int .i64 ((rd_T37 y218 x61_2).f1),.int .i64 0,.int .i64 0]) ?_ 2 _ rfl; (with_reducible repeat (first | refine blk_drewN ?_ _ | refine blk_drew ?_ | refine blk_alloc ?_ _)); refine blk_put (cs:=#[.int .i64 ((rd_T37 y218 x61_2).f0),.int .i64 0,.int .i64 0,.int .i64 0]) ?_ 1 _ rfl; (with_reducible repeat (first | refine blk_drewN ?_ _ | refine blk_drew ?_ | refine blk_alloc ?_ _)); refine blk_put (cs:=#[.int .i64 0,.int .i64 0,.int .i64 0,.int .i64 0]) ?_ 0 _ rfl; (with_reducible repeat (first | refine blk_drewN ?_ _ | refine blk_drew ?_ | refine blk_alloc ?_ _)); exact BK222.out) hb); have n6_:=Aside0.mk (below_step (by repeat (first | (with_reducible first | exact HB.out | apply below_alloc | apply pw_below_drewN | apply below_drew1 | refine below_set ?_ GE210.out | refine below_set ?_ GE211.out | refine below_set ?_ GE216.out | refine below_set ?_ GE222.out) | exact HB.out)) hb); clear HO_6; clear HO_59; clear BK210; clear BK211; clear BK216; clear BK222; clear HB; have HO_6:=n0_; have HO_59:=n1_; have BK210:=n2_; have BK211:=n3_; have BK216:=n4_; have BK222:=n5_; have HB:=n6_; clear n0_ n1_ n2_ n3_ n4_ n5_ n6_; (try clear hb); (try clear hb2); (try clear hk); (try clear hi); have hcz49_0:w48.cell? ⟨gb222,0,none⟩ = some (.int .i64 ((rd_T37 y218 x61_2).f0)):=(blk_cell BK222.out 0).trans rfl; have hcz49_1:w48.cell? ⟨gb222,1,none⟩ = some (.int .i64 ((rd_T37 y218 x61_2).f1)):=(blk_cell BK222.out 1).trans rfl; have hcz49_2:w48.cell? ⟨gb222,2,none⟩ = some (.int .i64 ((rd_T37 y218 x61_2).f2)):=(blk_cell BK222.out 2).trans rfl; have hcz49_3:w48.cell? ⟨gb222,3,none⟩ = some (.int .i64 ((rd_T37 y218 x61_2).f3)):=(blk_cell BK222.out 3).trans rfl; have hfz49_0:=blk_frozen BK222.out 0; have hfz49_1:=blk_frozen BK222.out 1; have hfz49_2:=blk_frozen BK222.out 2; have hfz49_3:=blk_frozen BK222.out 3) | ((with_reducible refine gate_builtin (b:=.append) (xs:=#[.tmp 68,.tmp 70]) rfl ?_); at_builtin; refine Kd.R_append k37 (w0:=w) w.heap.size rfl (.tmp 68) (.tmp 70) 29 37 (.agg #[(.int .i64 0),(.int .i64 0),(.int .i64 0),(.int .i64 0)]) 32 rfl Try.underlying29 info37 rfl (by decide) (by omega) u6 x6_2 (⟨(rd_T37 y218 x61_2).f0,(rd_T37 y218 x61_2).f1,(rd_T37 y218 x61_2).f2,(rd_T37 y218 x61_2).f3⟩:S37) [.int .i64 ((rd_T37 y218 x61_2).f0),.int .i64 ((rd_T37 y218 x61_2).f1),.int .i64 ((rd_T37 y218 x61_2).f2),.int .i64 ((rd_T37 y218 x61_2).f3)] (fun k_ => some k_ ≠ (.slice (some ad221) y218.length co30:Value).ownBlock ∧ k_ ≠ gb210 ∧ k_ ≠ gb211 ∧ k_ ≠ gb216 ∧ k_ ≠ gb222) (fun _ => False) rfl rfl ?aP (fun _ hk => hk.elim) ?aF ?aO ?aB ?aS ?aL ?_; (case aP => exact k37_mkM _ _ _ (⟨(rd_T37 y218 x61_2).f0,(rd_T37 y218 x61_2).f1,(rd_T37 y218 x61_2).f2,(rd_T37 y218 x61_2).f3⟩:S37)); (case aB => exact (by repeat (first | (with_reducible first | exact HB.out | apply below_alloc | apply pw_below_drewN | apply below_drew1 | refine below_set ?_ GE210.out | refine below_set ?_ GE211.out | refine below_set ?_ GE216.out | refine below_set ?_ GE222.out) | exact HB.out))); (case aF => exact (fun k_ hk => ⟨Kd.fresh' (Kd.R_lt (by (with_reducible repeat (first | apply Kd.R_alloc | apply Kd.R_drewN | apply Kd.R_drew)); exact HO_59.out)) k_ hk,Kd.freshB (g:=gb210) (o:=.cells #[.int .i64 a0_0,.int .i64 a0_1,.int .i64 a0_2,.int .i64 a0_3] 37 (0,0)) (by (with_reducible repeat (first | refine blk_drewN ?_ _ | refine blk_drew ?_ | refine blk_alloc ?_ _)); exact BK210.out) k_ hk,Kd.freshB (g:=gb211) (o:=.cells #[.int .i64 a1_0,.int .i64 a1_1,.int .i64 a1_2,.int .i64 a1_3] 37 (0,0)) (by (with_reducible repeat (first | refine blk_drewN ?_ _ | refine blk_drew ?_ | refine blk_alloc ?_ _)); exact BK211.out) k_ hk,Kd.freshB (g:=gb216) (o:=.cells #[.int .i64 x217000_4,.int .i64 x217001_4,.int .i64 x217002_4,.int .i64 x217003_4] 37 (0,0)) (by (with_reducible repeat (first | refine blk_drewN ?_ _ | refine blk_drew ?_ | refine blk_alloc ?_ _)); exact BK216.out) k_ hk,Kd.freshB (g:=gb222) (o:=.cells #[.int .i64 ((rd_T37 y218 x61_2).f0),.int .i64 ((rd_T37 y218 x61_2).f1),.int .i64 ((rd_T37 y218 x61_2).f2),.int .i64 ((rd_T37 y218 x61_2).f3)] 37 (0,0)) (by (with_reducible repeat (first | refine blk_drewN ?_ _ | refine blk_drew ?_ | refine blk_alloc ?_ _)); exact BK222.out) k_ hk⟩)); (case aO => exact (by (with_reducible repeat (first | apply Kd.R_alloc | apply Kd.R_drewN | apply Kd.R_drew)); exact Kd.R_mono HO_6.out (fun _ hk => ⟨hk.1.1,⟨hk.1.2.1,⟨hk.1.2.2.1,⟨hk.1.2.2.2,hk.2⟩⟩⟩⟩))); (case aS => exact (below_size (by repeat (first | (with_reducible first | exact HB.out | apply below_alloc | apply pw_below_drewN | apply below_drew1 | refine below_set ?_ GE210.out | refine below_set ?_ GE211.out | refine below_set ?_ GE216.out | refine below_set ?_ GE222.out) | exact HB.out)))); (case aL => have:=LMc42.out; omega); intro v225 w50 ho hb hg hat; rw [← Ny224.out] at ho; have n0_:=Aside0.mk (Kd.R_after (ok:=(fun k_ => k_ ≠ gb210 ∧ k_ ≠ gb211 ∧ k_ ≠ gb216 ∧ k_ ≠ gb222)) (by (with_reducible repeat (first | apply Kd.R_alloc | apply Kd.R_drewN | apply Kd.R_drew)); exact Kd.R_mono HO_59.out (fun _ hk => ⟨⟨hk.1.2.1,⟨hk.1.2.2.1,⟨hk.1.2.2.2,hk.2⟩⟩⟩,hk.1.1⟩)) hg hat); have n1_:=Aside0.mk (blk_grown (g:=gb210) (o:=.cells #[.int .i64 a0_0,.int .i64 a0_1,.int .i64 a0_2,.int .i64 a0_3] 37 (0,0)) (by (with_reducible repeat (first | refine blk_drewN ?_ _ | refine blk_drew ?_ | refine blk_alloc ?_ _)); exact BK210.out) hg (Kd.R_away HO_6.out (fun _ hk => hk.1.2.1))); have n2_:=Aside0.mk (blk_grown (g:=gb211) (o:=.cells #[.int .i64 a1_0,.int .i64 a1_1,.int .i64 a1_2,.int .i64 a1_3] 37 (0,0)) (by (with_reducible repeat (first | refine blk_drewN ?_ _ | refine blk_drew ?_ | refine blk_alloc ?_ _)); exact BK211.out) hg (Kd.R_away HO_6.out (fun _ hk => hk.1.2.2.1))); have n3_:=Aside0.mk (blk_grown (g:=gb216) (o:=.cells #[.int .i64 x217000_4,.int .i64 x217001_4,.int .i64 x217002_4,.int .i64 x217003_4] 37 (0,0)) (by (with_reducible repeat (first | refine blk_drewN ?_ _ | refine blk_drew ?_ | refine blk_alloc ?_ _)); exact BK216.out) hg (Kd.R_away HO_6.out (fun _ hk => hk.1.2.2.2))); have n4_:=Aside0.mk (blk_grown (g:=gb222) (o:=.cells #[.int .i64 ((rd_T37 y218 x61_2).f0),.int .i64 ((rd_T37 y218 x61_2).f1),.int .i64 ((rd_T37 y218 x61_2).f2),.int .i64 ((rd_T37 y218 x61_2).f3)] 37 (0,0)) (by (with_reducible repeat (first | refine blk_drewN ?_ _ | refine blk_drew ?_ | refine blk_alloc ?_ _)); exact BK222.out) hg (Kd.R_away HO_6.out (fun _ hk => hk.2))); have n5_:=Aside0.mk (hb); have n6_:=Aside0.mk (ho); clear HO_59; clear BK210; clear BK211; clear BK216; clear BK222; clear HB; clear HO_6; have HO_59:=n0_; have BK210:=n1_; have BK211:=n2_; have BK216:=n3_; have BK222:=n4_; have HB:=n5_; have HO226:=n6_; clear n0_ n1_ n2_ n3_ n4_ n5_ n6_; clear ho hb hg hat))
          go_roundg k2
          case measure => have:=HJ4.out; have:=HK2.out; omega
          case rel => exact ⟨(y224),(wrap64 (x61_2 + 1)),(by first | rfl | (simp; done) | (simp [*]; done)),H',⟨by have:=HJ4.out; have:=HK2.out; omega⟩,⟨by (with_reducible repeat (first | apply Kd.R_alloc | apply Kd.R_drewN | apply Kd.R_drew)); exact Kd.R_mono HO226.out (fun _ hk => ⟨hk.1,⟨hk.2.1,⟨hk.2.2.1,hk.2.2.2.1⟩⟩⟩)⟩,⟨by (with_reducible repeat (first | apply Kd.R_alloc | apply Kd.R_drewN | apply Kd.R_drew)); exact Kd.R_mono HO_59.out (fun _ hk => ⟨hk.2,⟨hk.1.1,⟨hk.1.2.1,hk.1.2.2.1⟩⟩⟩)⟩,⟨by (with_reducible repeat (first | refine blk_drewN ?_ _ | refine blk_drew ?_ | refine blk_alloc ?_ _)); exact BK210.out⟩,⟨by (with_reducible repeat (first | refine blk_drewN ?_ _ | refine blk_drew ?_ | refine blk_alloc ?_ _)); exact BK211.out⟩,⟨by (with_reducible repeat (first | refine blk_drewN ?_ _ | refine blk_drew ?_ | refine blk_alloc ?_ _)); exact BK216.out⟩,⟨by repeat (first | (with_reducible first | exact HB.out | apply below_alloc | apply pw_below_drewN | apply below_drew1 | refine below_set ?_ GE210.out | refine below_set ?_ GE211.out | refine below_set ?_ GE216.out | refine below_set ?_ GE222.out) | exact HB.out)⟩⟩
         ·rw [if_neg c42] at H
          exact absurd H (by simp)
       ·rw [if_neg c33] at H
        exact absurd H (by simp)
      ·rw [if_neg c32] at H
       exact absurd H (by simp)
     ·rw [if_neg c31] at H
      have c31b0:decide (x61_2 < (y218.length:Int)) = false:=decide_eq_false c31
      clear c31
      obtain rfl:=Option.some.inj H
      go_wp2
      go_ret
      exact ⟨_,by first | rfl | (simp [errW_none,errW_some] <;> rfl) | (simp [*,errW_none,errW_some] <;> rfl),by (with_reducible repeat (first | apply Kd.R_alloc | apply Kd.R_drewN | apply Kd.R_drew)); exact Kd.R_mono HO_6.out (fun _ hk => trivial),by repeat (first | (with_reducible first | exact HB.out | apply below_alloc | apply pw_below_drewN | apply below_drew1 | refine below_set ?_ GE210.out | refine below_set ?_ GE211.out | refine below_set ?_ GE216.out) | exact HB.out)⟩
mutual
def cover_Rest.j0:Nat → List (S37) → List (S37) → Option ((List (S37)))
 | 0,_,_ => none
 | k + 1,x1,x5 => cover_Rest.l0 k x5 x1 (x1.length:Int) 0
def cover_Rest.l0:Nat → List (S37) → List (S37) → Int → Int → Option ((List (S37)))
 | 0,_,_,_,_ => none
 | k + 1,x5,x18,x19,x20 => if x20 < x19 then (if 0 ≤ x20 then (if x20 < (x18.length:Int) then (cover_Rest.l1 k ([]:List (S37)) x18 x19 x20 x5 (x5.length:Int) 0 ((rd_T37 x18 x20).f0) ((rd_T37 x18 x20).f1) ((rd_T37 x18 x20).f2) ((rd_T37 x18 x20).f3)) else (none)) else (none)) else (some x5)
def cover_Rest.l1:Nat → List (S37) → List (S37) → Int → Int → List (S37) → Int → Int → Int → Int → Int → Int → Option ((List (S37)))
 | 0,_,_,_,_,_,_,_,_,_,_,_ => none
 | k + 1,x8,x18,x19,x20,x24,x25,x26,x234000,x234001,x234002,x234003 => if x26 < x25 then (if 0 ≤ x26 then (if x26 < (x24.length:Int) then ((rect_Cut.f k ((rd_T37 x24 x26).f0) ((rd_T37 x24 x26).f1) ((rd_T37 x24 x26).f2) ((rd_T37 x24 x26).f3) x234000 x234001 x234002 x234003).bind fun t236 => (if x8.length + t236.length < 4398046511104 then (cover_Rest.l1 k (x8 ++ t236) x18 x19 x20 x24 x25 (wrap64 (x26 + 1)) x234000 x234001 x234002 x234003) else (none))) else (none)) else (none)) else (cover_Rest.l0 k x8 x18 x19 (wrap64 (x20 + 1)))
end
def cover_Rest.f (k:Nat) (a0_0:Int) (a0_1:Int) (a0_2:Int) (a0_3:Int) (l1:List (S37)):Option ((List (S37))):=(rect_Empty.f a0_0 a0_1 a0_2 a0_3).bind fun t228 => (if t228 = true then (cover_Rest.j0 k l1 ([]:List (S37))) else (if ([]:List (S37)).length < 4398046511104 then (cover_Rest.j0 k l1 (([]:List (S37)) ++ [(⟨a0_0,a0_1,a0_2,a0_3⟩:S37)])) else (none)))
set_option maxHeartbeats 8000000 in
set_option maxRecDepth 100000 in
theorem cover_Rest.calls (k:Nat) (a0_0:Int) (a0_1:Int) (a0_2:Int) (a0_3:Int) (A1:Option Addr) (c1:Nat) (l1:List (S37)) (r:List (S37)) (w:World) (hr1:Kd.C k37 w A1 l1.length l1) (hc1:l1.length ≤ c1) (h:cover_Rest.f k a0_0 a0_1 a0_2 a0_3 l1 = some r) :
  Calls Try.prog 58 #[.agg #[.int .i64 a0_0,.int .i64 a0_1,.int .i64 a0_2,.int .i64 a0_3],.slice A1 l1.length c1] w fun e w' => ∃ v0_:Value,e = .returned (v0_) ∧ Kd.R k37 37 w' w.heap.size (fun _ => True) v0_ r ∧ Below w.heap.size w w':=by
 have hu37:=Try.underlying37
 have HR1:=Aside0.mk hr1
 have HC1:=Aside0.mk hc1
 clear hr1 hc1
 have HB:=Aside0.mk (Below.refl w.heap.size w)
 have H:((rect_Empty.f a0_0 a0_1 a0_2 a0_3).bind fun t228 => (if t228 = true then (cover_Rest.j0 k l1 ([]:List (S37))) else (if ([]:List (S37)).length < 4398046511104 then (cover_Rest.j0 k l1 (([]:List (S37)) ++ [(⟨a0_0,a0_1,a0_2,a0_3⟩:S37)])) else (none)))) = some r:=h
 clear h
 replace H:=Option.bind_eq_some_iff.mp H
 obtain ⟨t228,A30,H⟩:=H
 replace H:(if t228 = true then (cover_Rest.j0 k l1 ([]:List (S37))) else (if ([]:List (S37)).length < 4398046511104 then (cover_Rest.j0 k l1 (([]:List (S37)) ++ [(⟨a0_0,a0_1,a0_2,a0_3⟩:S37)])) else (none))) = some r:=H
 have A3:=Aside0.mk A30
 clear A30
 have HC4:=Aside0.mk H
 clear H
 go_enter Try.func58,Try.ntmps58
 go_upto_if 13 with (first | ((with_reducible refine gate_dst (N:=2) rfl ?_); refine box_event ?hg (N:=2) ?hd (cs:=#[.int .i64 a0_0,.int .i64 a0_1,.int .i64 a0_2,.int .i64 a0_3]) (t:=37) ?hr ?_; (case hd => rfl); (case hg => rfl); (case hr => first | (go_simp; done) | (go_simp; rfl)); intro gb227 hg w5 hbox hb; have n0_:=Aside0.mk (below_step (by repeat (first | (with_reducible first | exact HB.out | apply below_alloc | apply pw_below_drewN | apply below_drew1) | exact HB.out)) hb); have n1_:=Aside0.mk (hbox); have n2_:=Aside0.mk ((by rw [hg]; exact (below_size (by repeat (first | (with_reducible first | exact HB.out | apply below_alloc | apply pw_below_drewN | apply below_drew1) | exact HB.out))):w.heap.size ≤ gb227)); have n3_:=Aside0.mk ((by rw [hg]; exact (below_size (by repeat (first | (with_reducible first | exact HB.out | apply below_alloc | apply pw_below_drewN | apply below_drew1) | exact HB.out))):w.heap.size ≤ gb227)); clear HB; have HB:=n0_; have BK227:=n1_; have GW227:=n2_; have GE227:=n3_; clear n0_ n1_ n2_ n3_; clear hb hbox hg; have hcz6_0:w5.cell? ⟨gb227,0,none⟩ = some (.int .i64 a0_0):=(blk_cell BK227.out 0).trans rfl; have hcz6_1:w5.cell? ⟨gb227,1,none⟩ = some (.int .i64 a0_1):=(blk_cell BK227.out 1).trans rfl; have hcz6_2:w5.cell? ⟨gb227,2,none⟩ = some (.int .i64 a0_2):=(blk_cell BK227.out 2).trans rfl; have hcz6_3:w5.cell? ⟨gb227,3,none⟩ = some (.int .i64 a0_3):=(blk_cell BK227.out 3).trans rfl; have hfz6_0:=blk_frozen BK227.out 0; have hfz6_1:=blk_frozen BK227.out 1; have hfz6_2:=blk_frozen BK227.out 2; have hfz6_3:=blk_frozen BK227.out 3) | ((with_reducible refine gate_callee (f:=55) rfl ?_); refine goesL_ (some 12) rfl rfl Try.func55 (by kernel_rfl) rfl #[.agg #[.int .i64 a0_0,.int .i64 a0_1,.int .i64 a0_2,.int .i64 a0_3]] rfl (by (try simp only [List.map_toArray,List.map_cons,List.map_nil]); first | done | rfl | (simp only [List.length_drop,List.length_take]; rfl)) ?_; (with_reducible refine (rect_Empty.calls a0_0 a0_1 a0_2 a0_3 t228 _ A3.out).mono ?_); rintro e w7 ⟨rfl,hb⟩; refine ⟨_,rfl,?_⟩; have n0_:=Aside0.mk (blk_below (g:=gb227) (o:=.cells #[.int .i64 a0_0,.int .i64 a0_1,.int .i64 a0_2,.int .i64 a0_3] 37 (0,0)) (by (with_reducible repeat (first | refine blk_drewN ?_ _ | refine blk_drew ?_ | refine blk_alloc ?_ _)); exact BK227.out) hb); have n1_:=Aside0.mk (below_step (by repeat (first | (with_reducible first | exact HB.out | apply below_alloc | apply pw_below_drewN | apply below_drew1 | refine below_set ?_ GE227.out) | exact HB.out)) hb); clear BK227; clear HB; have BK227:=n0_; have HB:=n1_; clear n0_ n1_; (try clear hb); (try clear hb2); (try clear hk); (try clear hi)))
 (try simp only [Act.put,List.setIfInBounds_toArray,List.set_cons_zero,List.set_cons_succ])
 go_cut [5] (fun v5 wc => ∃ (kq:Nat) (x5_3:List (S37)),Aside0 (cover_Rest.j0 kq l1 x5_3 = some r) ∧ Aside0 (kq ≤ k) ∧ Aside0 (Kd.R k37 37 wc w.heap.size (fun k_ => k_ ≠ gb227) v5 x5_3) ∧ Aside0 (wc.heap[gb227]? = some (.cells #[.int .i64 a0_0,.int .i64 a0_1,.int .i64 a0_2,.int .i64 a0_3] 37 (0,0))) ∧ Aside0 (Below w.heap.size w wc))
 case first =>
  have H:=HC4.out
  clear HC4
  by_cases c8:t228 = true
  ·subst c8
   have H1:(cover_Rest.j0 k l1 ([]:List (S37))) = some r:=by rw [if_pos rfl] at H; exact H
   clear H
   have H:=H1
   clear H1
   have H':=Aside0.mk H
   clear H
   go_wp2
   go_meet
   case rel => exact ⟨_,(([]:List (S37))),H',⟨by first | omega | exact Nat.le_refl _⟩,⟨by first | exact Kd.R_nil _ _ _ _ _ | exact Kd.N_nil _ _ _ _ _ | exact Kd.V_nil _ _ _ _ _ | exact Kd.Q_nil _ _ _ _ _ | exact Kd.S_nil _ _ _ _ _⟩,⟨by (with_reducible repeat (first | refine blk_drewN ?_ _ | refine blk_drew ?_ | refine blk_alloc ?_ _)); exact BK227.out⟩,⟨by repeat (first | (with_reducible first | exact HB.out | apply below_alloc | apply pw_below_drewN | apply below_drew1 | refine below_set ?_ GE227.out) | exact HB.out)⟩⟩
  ·replace c8:=Bool.eq_false_iff.mpr c8
   subst c8
   have H1:(if ([]:List (S37)).length < 4398046511104 then (cover_Rest.j0 k l1 (([]:List (S37)) ++ [(⟨a0_0,a0_1,a0_2,a0_3⟩:S37)])) else (none)) = some r:=by rw [if_neg (show ¬ (false = true) by decide)] at H; exact H
   clear H
   have H:=H1
   clear H1
   by_cases c9:([]:List (S37)).length < 4398046511104
   ·rw [if_pos c9] at H
    have LMc9:=Aside0.mk c9
    clear c9
    obtain ⟨y229,hy229⟩:∃ y_:List (S37),y_ = (([]:List (S37)) ++ [(⟨a0_0,a0_1,a0_2,a0_3⟩:S37)]):=⟨_,rfl⟩
    replace H:(cover_Rest.j0 k l1 y229) = some r:=by first | (rw [hy229]; with_reducible exact H) | (have H2_:=(Option.bind_some _ _).symm.trans H; rw [hy229]; with_reducible exact H2_) | (have H2_:=(Option.bind_some _ _).symm.trans H; with_reducible exact H2_) | with_reducible exact H | (rw [hy229]; exact H) | exact H
    have Ny229:=Aside0.mk hy229
    clear hy229
    have H':=Aside0.mk H
    clear H
    have hcz10_0:w7.cell? ⟨gb227,0,none⟩ = some (.int .i64 a0_0):=(blk_cell BK227.out 0).trans rfl
    have hcz10_1:w7.cell? ⟨gb227,1,none⟩ = some (.int .i64 a0_1):=(blk_cell BK227.out 1).trans rfl
    have hcz10_2:w7.cell? ⟨gb227,2,none⟩ = some (.int .i64 a0_2):=(blk_cell BK227.out 2).trans rfl
    have hcz10_3:w7.cell? ⟨gb227,3,none⟩ = some (.int .i64 a0_3):=(blk_cell BK227.out 3).trans rfl
    have hfz10_0:=blk_frozen BK227.out 0
    have hfz10_1:=blk_frozen BK227.out 1
    have hfz10_2:=blk_frozen BK227.out 2
    have hfz10_3:=blk_frozen BK227.out 3
    go_wp2_with (first | ((with_reducible refine gate_builtin (b:=.append) (xs:=#[.tmp 14,.tmp 16]) rfl ?_); at_builtin; refine Kd.R_append k37 (w0:=w) w.heap.size rfl (.tmp 14) (.tmp 16) 29 37 (.agg #[(.int .i64 0),(.int .i64 0),(.int .i64 0),(.int .i64 0)]) 32 rfl Try.underlying29 info37 rfl (by decide) (by omega) (.slice none 0 0) ([]:List (S37)) (⟨a0_0,a0_1,a0_2,a0_3⟩:S37) [.int .i64 a0_0,.int .i64 a0_1,.int .i64 a0_2,.int .i64 a0_3] (fun k_ => k_ ≠ gb227) (fun _ => False) rfl rfl ?aP (fun _ hk => hk.elim) ?aF ?aO ?aB ?aS ?aL ?_; (case aP => exact k37_mkM _ _ _ (⟨a0_0,a0_1,a0_2,a0_3⟩:S37)); (case aB => exact (by repeat (first | (with_reducible first | exact HB.out | apply below_alloc | apply pw_below_drewN | apply below_drew1 | refine below_set ?_ GE227.out) | exact HB.out))); (case aF => exact (fun k_ hk => Kd.freshB (g:=gb227) (o:=.cells #[.int .i64 a0_0,.int .i64 a0_1,.int .i64 a0_2,.int .i64 a0_3] 37 (0,0)) (by (with_reducible repeat (first | refine blk_drewN ?_ _ | refine blk_drew ?_ | refine blk_alloc ?_ _)); exact BK227.out) k_ hk)); (case aO => exact ((Kd.R_nil _ _ _ _ (fun k_ => k_ ≠ gb227)))); (case aS => exact (below_size (by repeat (first | (with_reducible first | exact HB.out | apply below_alloc | apply pw_below_drewN | apply below_drew1 | refine below_set ?_ GE227.out) | exact HB.out)))); (case aL => have:=LMc9.out; omega); intro v230 w11 ho hb hg hat; rw [← Ny229.out] at ho; have n0_:=Aside0.mk (blk_grown (g:=gb227) (o:=.cells #[.int .i64 a0_0,.int .i64 a0_1,.int .i64 a0_2,.int .i64 a0_3] 37 (0,0)) (by (with_reducible repeat (first | refine blk_drewN ?_ _ | refine blk_drew ?_ | refine blk_alloc ?_ _)); exact BK227.out) hg (by simp [Value.ownBlock])); have n1_:=Aside0.mk (hb); have n2_:=Aside0.mk (ho); clear BK227; clear HB; have BK227:=n0_; have HB:=n1_; have HO231:=n2_; clear n0_ n1_ n2_; clear ho hb hg hat))
    go_meet
    case rel => exact ⟨_,(y229),H',⟨by first | omega | exact Nat.le_refl _⟩,⟨by (with_reducible repeat (first | apply Kd.R_alloc | apply Kd.R_drewN | apply Kd.R_drew)); exact HO231.out⟩,⟨by (with_reducible repeat (first | refine blk_drewN ?_ _ | refine blk_drew ?_ | refine blk_alloc ?_ _)); exact BK227.out⟩,⟨by repeat (first | (with_reducible first | exact HB.out | apply below_alloc | apply pw_below_drewN | apply below_drew1 | refine below_set ?_ GE227.out) | exact HB.out)⟩⟩
   ·rw [if_neg c9] at H
    exact absurd H (by simp)
 case rest =>
  clear HC4
  try clear c1
  try clear p2
  try clear c5
  try clear c8
  try clear c9
  try clear hcz10_0
  try clear hcz10_1
  try clear hcz10_2
  try clear hcz10_3
  try clear hcz6_0
  try clear hcz6_1
  try clear hcz6_2
  try clear hcz6_3
  try clear hfz10_0
  try clear hfz10_1
  try clear hfz10_2
  try clear hfz10_3
  try clear hfz6_0
  try clear hfz6_1
  try clear hfz6_2
  try clear hfz6_3
  obtain ⟨kq,x5_3,HA,HJ3,HO_5,BK227,HB⟩:=hcut
  cases kq with
  | zero => exact absurd HA.out (by simp [cover_Rest.j0])
  | succ kj3 =>
   have H:=HA.out
   clear HA
   simp only [cover_Rest.j0] at H
   have H':=Aside0.mk H
   clear H
   go_wp2
   go_loopg [5,20] kj3 (fun kq v5 v20 w' => ∃ (x5_2:List (S37)) (x20_2:Int),v20 = .int .i64 x20_2 ∧ Aside0 (cover_Rest.l0 kq x5_2 l1 (l1.length:Int) x20_2 = some r) ∧ Aside0 (kq ≤ kj3) ∧ Aside0 (Kd.R k37 37 w' w.heap.size (fun k_ => k_ ≠ gb227) v5 x5_2) ∧ Aside0 (w'.heap[gb227]? = some (.cells #[.int .i64 a0_0,.int .i64 a0_1,.int .i64 a0_2,.int .i64 a0_3] 37 (0,0))) ∧ Aside0 (Below w.heap.size w w'))
   case atStart => exact ⟨(x5_3),(0),(by first | rfl | (simp; done) | (simp [*]; done)),H',⟨Nat.le_refl _⟩,⟨by (with_reducible repeat (first | apply Kd.R_alloc | apply Kd.R_drewN | apply Kd.R_drew)); exact HO_5.out⟩,⟨by (with_reducible repeat (first | refine blk_drewN ?_ _ | refine blk_drew ?_ | refine blk_alloc ?_ _)); exact BK227.out⟩,⟨by repeat (first | (with_reducible first | exact HB.out | apply below_alloc | apply pw_below_drewN | apply below_drew1 | refine below_set ?_ GE227.out) | exact HB.out)⟩⟩
   case round =>
    clear H'
    try clear c1
    try clear p2
    try clear c5
    try clear c8
    try clear c9
    try clear hcz10_0
    try clear hcz10_1
    try clear hcz10_2
    try clear hcz10_3
    try clear hcz6_0
    try clear hcz6_1
    try clear hcz6_2
    try clear hcz6_3
    try clear hfz10_0
    try clear hfz10_1
    try clear hfz10_2
    try clear hfz10_3
    try clear hfz6_0
    try clear hfz6_1
    try clear hfz6_2
    try clear hfz6_3
    try clear p2
    obtain ⟨x5_2,x20_2,rfl,HA,HK2,HO_5,BK227,HB⟩:=hrel
    cases gk with
    | zero => exact absurd HA.out (by simp [cover_Rest.l0])
    | succ k2 =>
     have H:=HA.out
     clear HA
     simp only [cover_Rest.l0] at H
     by_cases c12:x20_2 < (l1.length:Int)
     ·rw [if_pos c12] at H
      have c12b0:decide (x20_2 < (l1.length:Int)) = true:=decide_eq_true c12
      clear c12
      by_cases c13:0 ≤ x20_2
      ·rw [if_pos c13] at H
       have c13b0:decide (0 ≤ x20_2) = true:=decide_eq_true c13
       clear c13
       by_cases c14:x20_2 < (l1.length:Int)
       ·rw [if_pos c14] at H
        have c14b0:decide (x20_2 < (l1.length:Int)) = true:=decide_eq_true c14
        clear c14
        have H':=Aside0.mk H
        clear H
        have p232:0 ≤ (x20_2:Int):=of_decide_eq_true (by first | (with_reducible assumption) | assumption)
        have q232:x20_2 < (l1.length:Int):=of_decide_eq_true (by first | (with_reducible assumption) | assumption)
        obtain ⟨ad232,e232,hx232_0,hx232_1,hx232_2,hx232_3⟩:=at_T37 HR1.out x20_2 p232 q232
        cases e232
        replace hx232_0:=(HB.out.cell (World.block_lt_of_cell? w _ hx232_0)).trans hx232_0
        replace hx232_1:=(HB.out.cell (World.block_lt_of_cell? w _ hx232_1)).trans hx232_1
        replace hx232_2:=(HB.out.cell (World.block_lt_of_cell? w _ hx232_2)).trans hx232_2
        replace hx232_3:=(HB.out.cell (World.block_lt_of_cell? w _ hx232_3)).trans hx232_3
        replace p232:=eq_true p232
        replace q232:=eq_true q232
        go_wp2_with (first | ((with_reducible refine gate_dst (N:=7) rfl ?_); refine box_event ?hg (N:=7) ?hd (cs:=#[.int .i64 0,.int .i64 0,.int .i64 0,.int .i64 0]) (t:=37) ?hr ?_; (case hd => rfl); (case hg => rfl); (case hr => first | (go_simp; done) | (go_simp; rfl)); intro gb233 hg w15 hbox hb; have n0_:=Aside0.mk (Kd.R_below (Kd.R_elderB (by (with_reducible repeat (first | apply Kd.R_alloc | apply Kd.R_drewN | apply Kd.R_drew)); exact HO_5.out) gb233 (Nat.le_of_eq hg.symm)) hb); have n1_:=Aside0.mk (blk_below (g:=gb227) (o:=.cells #[.int .i64 a0_0,.int .i64 a0_1,.int .i64 a0_2,.int .i64 a0_3] 37 (0,0)) (by (with_reducible repeat (first | refine blk_drewN ?_ _ | refine blk_drew ?_ | refine blk_alloc ?_ _)); exact BK227.out) hb); have n2_:=Aside0.mk (below_step (by repeat (first | (with_reducible first | exact HB.out | apply below_alloc | apply pw_below_drewN | apply below_drew1 | refine below_set ?_ GE227.out) | exact HB.out)) hb); have n3_:=Aside0.mk (hbox); have n4_:=Aside0.mk ((by rw [hg]; exact (below_size (by repeat (first | (with_reducible first | exact HB.out | apply below_alloc | apply pw_below_drewN | apply below_drew1 | refine below_set ?_ GE227.out) | exact HB.out))):w.heap.size ≤ gb233)); have n5_:=Aside0.mk ((by rw [hg]; exact (below_size (by repeat (first | (with_reducible first | exact HB.out | apply below_alloc | apply pw_below_drewN | apply below_drew1 | refine below_set ?_ GE227.out) | exact HB.out))):w.heap.size ≤ gb233)); have n6_:=Aside0.mk ((by rw [hg]; exact Nat.ne_of_lt (blk_lt (g:=gb227) (o:=.cells #[.int .i64 a0_0,.int .i64 a0_1,.int .i64 a0_2,.int .i64 a0_3] 37 (0,0)) (by (with_reducible repeat (first | refine blk_drewN ?_ _ | refine blk_drew ?_ | refine blk_alloc ?_ _)); exact BK227.out)):gb227 ≠ gb233)); have n7_:=Aside0.mk ((by rw [hg]; exact Nat.ne_of_gt (blk_lt (g:=gb227) (o:=.cells #[.int .i64 a0_0,.int .i64 a0_1,.int .i64 a0_2,.int .i64 a0_3] 37 (0,0)) (by (with_reducible repeat (first | refine blk_drewN ?_ _ | refine blk_drew ?_ | refine blk_alloc ?_ _)); exact BK227.out)):gb233 ≠ gb227)); clear HO_5; clear BK227; clear HB; have HO_5:=n0_; have BK227:=n1_; have HB:=n2_; have BK233:=n3_; have GW233:=n4_; have GE233:=n5_; have NB227_233:=n6_; have NB233_227:=n7_; clear n0_ n1_ n2_ n3_ n4_ n5_ n6_ n7_; clear hb hbox hg; have hnb16:=NB233_227.out; have hnc16:=NB227_233.out; have hcz17_0:w15.cell? ⟨gb233,0,none⟩ = some (.int .i64 0):=(blk_cell BK233.out 0).trans rfl; have hcz17_1:w15.cell? ⟨gb233,1,none⟩ = some (.int .i64 0):=(blk_cell BK233.out 1).trans rfl; have hcz17_2:w15.cell? ⟨gb233,2,none⟩ = some (.int .i64 0):=(blk_cell BK233.out 2).trans rfl; have hcz17_3:w15.cell? ⟨gb233,3,none⟩ = some (.int .i64 0):=(blk_cell BK233.out 3).trans rfl; have hfz17_0:=blk_frozen BK233.out 0; have hfz17_1:=blk_frozen BK233.out 1; have hfz17_2:=blk_frozen BK233.out 2; have hfz17_3:=blk_frozen BK233.out 3; obtain ⟨Ao18,co18,eo18⟩:=Kd.R_slice HO_5.out; subst eo18))
        go_loopg [8,26] k2 (fun kq v8 v26 w' => ∃ (x8_3:List (S37)) (x26_3:Int),v26 = .int .i64 x26_3 ∧ Aside0 (cover_Rest.l1 kq x8_3 l1 (l1.length:Int) x20_2 x5_2 (x5_2.length:Int) x26_3 ((rd_T37 l1 x20_2).f0) ((rd_T37 l1 x20_2).f1) ((rd_T37 l1 x20_2).f2) ((rd_T37 l1 x20_2).f3) = some r) ∧ Aside0 (kq ≤ k2) ∧ Aside0 (Kd.R k37 37 w' w.heap.size (fun k_ => some k_ ≠ ((.slice Ao18 x5_2.length co18):Value).ownBlock ∧ k_ ≠ gb227 ∧ k_ ≠ gb233) v8 x8_3) ∧ Aside0 (Kd.R k37 37 w' w.heap.size (fun k_ => some k_ ≠ (v8:Value).ownBlock ∧ k_ ≠ gb227 ∧ k_ ≠ gb233) (.slice Ao18 x5_2.length co18) x5_2) ∧ Aside0 (w'.heap[gb227]? = some (.cells #[.int .i64 a0_0,.int .i64 a0_1,.int .i64 a0_2,.int .i64 a0_3] 37 (0,0))) ∧ Aside0 (w'.heap[gb233]? = some (.cells #[.int .i64 ((rd_T37 l1 x20_2).f0),.int .i64 ((rd_T37 l1 x20_2).f1),.int .i64 ((rd_T37 l1 x20_2).f2),.int .i64 ((rd_T37 l1 x20_2).f3)] 37 (0,0))) ∧ Aside0 (Below w.heap.size w w'))
        case atStart => exact ⟨(([]:List (S37))),(0),(by first | rfl | (simp; done) | (simp [*]; done)),H',⟨Nat.le_refl _⟩,⟨by first | exact Kd.R_nil _ _ _ _ _ | exact Kd.N_nil _ _ _ _ _ | exact Kd.V_nil _ _ _ _ _ | exact Kd.Q_nil _ _ _ _ _ | exact Kd.S_nil _ _ _ _ _⟩,⟨by (with_reducible repeat (first | apply Kd.R_alloc | apply Kd.R_drewN | apply Kd.R_drew)); exact Kd.R_mono (Kd.R_far (p:=⟨gb233,3,none⟩) (Kd.R_far (p:=⟨gb233,2,none⟩) (Kd.R_far (p:=⟨gb233,1,none⟩) (Kd.R_far (p:=⟨gb233,0,none⟩) (Kd.R_mono HO_5.out (fun k_ hk => (⟨hk,hk.2⟩:_ ∧ k_ ≠ gb233))) (fun _ hk => hk.2) (.int .i64 ((rd_T37 l1 x20_2).f0))) (fun _ hk => hk.2) (.int .i64 ((rd_T37 l1 x20_2).f1))) (fun _ hk => hk.2) (.int .i64 ((rd_T37 l1 x20_2).f2))) (fun _ hk => hk.2) (.int .i64 ((rd_T37 l1 x20_2).f3))) (fun _ hk => ⟨(by simp [Value.ownBlock]),⟨hk.1.1,hk.1.2⟩⟩)⟩,⟨by (with_reducible repeat (first | refine blk_drewN ?_ _ | refine blk_drew ?_ | refine blk_alloc ?_ _)); refine blk_far ?_ NB227_233.out _; (with_reducible repeat (first | refine blk_drewN ?_ _ | refine blk_drew ?_ | refine blk_alloc ?_ _)); refine blk_far ?_ NB227_233.out _; (with_reducible repeat (first | refine blk_drewN ?_ _ | refine blk_drew ?_ | refine blk_alloc ?_ _)); refine blk_far ?_ NB227_233.out _; (with_reducible repeat (first | refine blk_drewN ?_ _ | refine blk_drew ?_ | refine blk_alloc ?_ _)); refine blk_far ?_ NB227_233.out _; (with_reducible repeat (first | refine blk_drewN ?_ _ | refine blk_drew ?_ | refine blk_alloc ?_ _)); exact BK227.out⟩,⟨by (with_reducible repeat (first | refine blk_drewN ?_ _ | refine blk_drew ?_ | refine blk_alloc ?_ _)); refine blk_put (cs:=#[.int .i64 ((rd_T37 l1 x20_2).f0),.int .i64 ((rd_T37 l1 x20_2).f1),.int .i64 ((rd_T37 l1 x20_2).f2),.int .i64 0]) ?_ 3 _ rfl; (with_reducible repeat (first | refine blk_drewN ?_ _ | refine blk_drew ?_ | refine blk_alloc ?_ _)); refine blk_put (cs:=#[.int .i64 ((rd_T37 l1 x20_2).f0),.int .i64 ((rd_T37 l1 x20_2).f1),.int .i64 0,.int .i64 0]) ?_ 2 _ rfl; (with_reducible repeat (first | refine blk_drewN ?_ _ | refine blk_drew ?_ | refine blk_alloc ?_ _)); refine blk_put (cs:=#[.int .i64 ((rd_T37 l1 x20_2).f0),.int .i64 0,.int .i64 0,.int .i64 0]) ?_ 1 _ rfl; (with_reducible repeat (first | refine blk_drewN ?_ _ | refine blk_drew ?_ | refine blk_alloc ?_ _)); refine blk_put (cs:=#[.int .i64 0,.int .i64 0,.int .i64 0,.int .i64 0]) ?_ 0 _ rfl; (with_reducible repeat (first | refine blk_drewN ?_ _ | refine blk_drew ?_ | refine blk_alloc ?_ _)); exact BK233.out⟩,⟨by repeat (first | (with_reducible first | exact HB.out | apply below_alloc | apply pw_below_drewN | apply below_drew1 | refine below_set ?_ GE227.out | refine below_set ?_ GE233.out) | exact HB.out)⟩⟩
        case round =>
         clear H'
         try clear c1
         try clear p2
         try clear q2
         try clear hx2
         try clear c5
         try clear c8
         try clear c9
         try clear c12
         try clear c12b0
         try clear c13
         try clear c13b0
         try clear c14
         try clear c14b0
         try clear c16
         try clear hcz10_0
         try clear hcz10_1
         try clear hcz10_2
         try clear hcz10_3
         try clear hcz17_0
         try clear hcz17_1
         try clear hcz17_2
         try clear hcz17_3
         try clear hcz6_0
         try clear hcz6_1
         try clear hcz6_2
         try clear hcz6_3
         try clear hfz10_0
         try clear hfz10_1
         try clear hfz10_2
         try clear hfz10_3
         try clear hfz17_0
         try clear hfz17_1
         try clear hfz17_2
         try clear hfz17_3
         try clear hfz6_0
         try clear hfz6_1
         try clear hfz6_2
         try clear hfz6_3
         try clear hx232_0
         try clear hx232_1
         try clear hx232_2
         try clear hx232_3
         try clear p2
         try clear p232
         try clear q232
         obtain ⟨x8_3,x26_3,rfl,HA,HK3,HO_8,HO_24,BK227,BK233,HB⟩:=hrel
         cases gk with
         | zero => exact absurd HA.out (by simp [cover_Rest.l1])
         | succ k3 =>
          have H:=HA.out
          clear HA
          simp only [cover_Rest.l1] at H
          by_cases c19:x26_3 < (x5_2.length:Int)
          ·rw [if_pos c19] at H
           have c19b0:decide (x26_3 < (x5_2.length:Int)) = true:=decide_eq_true c19
           clear c19
           by_cases c20:0 ≤ x26_3
           ·rw [if_pos c20] at H
            have c20b0:decide (0 ≤ x26_3) = true:=decide_eq_true c20
            clear c20
            by_cases c21:x26_3 < (x5_2.length:Int)
            ·rw [if_pos c21] at H
             have c21b0:decide (x26_3 < (x5_2.length:Int)) = true:=decide_eq_true c21
             clear c21
             replace H:=Option.bind_eq_some_iff.mp H
             obtain ⟨t236,A220,H⟩:=H
             replace H:(if x8_3.length + t236.length < 4398046511104 then (cover_Rest.l1 k3 (x8_3 ++ t236) l1 (l1.length:Int) x20_2 x5_2 (x5_2.length:Int) (wrap64 (x26_3 + 1)) ((rd_T37 l1 x20_2).f0) ((rd_T37 l1 x20_2).f1) ((rd_T37 l1 x20_2).f2) ((rd_T37 l1 x20_2).f3)) else (none)) = some r:=H
             have A22:=Aside0.mk A220
             clear A220
             by_cases c23:x8_3.length + t236.length < 4398046511104
             ·rw [if_pos c23] at H
              have LMc23:=Aside0.mk c23
              clear c23
              obtain ⟨y239,hy239⟩:∃ y_:List (S37),y_ = (x8_3 ++ t236):=⟨_,rfl⟩
              replace H:(cover_Rest.l1 k3 y239 l1 (l1.length:Int) x20_2 x5_2 (x5_2.length:Int) (wrap64 (x26_3 + 1)) ((rd_T37 l1 x20_2).f0) ((rd_T37 l1 x20_2).f1) ((rd_T37 l1 x20_2).f2) ((rd_T37 l1 x20_2).f3)) = some r:=by first | (rw [hy239]; with_reducible exact H) | (have H2_:=(Option.bind_some _ _).symm.trans H; rw [hy239]; with_reducible exact H2_) | (have H2_:=(Option.bind_some _ _).symm.trans H; with_reducible exact H2_) | with_reducible exact H | (rw [hy239]; exact H) | exact H
              have Ny239:=Aside0.mk hy239
              clear hy239
              have H':=Aside0.mk H
              clear H
              have p234:0 ≤ (x26_3:Int):=of_decide_eq_true (by first | (with_reducible assumption) | assumption)
              have q234:x26_3 < (x5_2.length:Int):=of_decide_eq_true (by first | (with_reducible assumption) | assumption)
              obtain ⟨ad234,e234,hx234_0,hx234_1,hx234_2,hx234_3⟩:=at_T37 (Kd.R_reads' HO_24.out).2.2 x26_3 p234 q234
              cases e234
              replace p234:=eq_true p234
              replace q234:=eq_true q234
              go_wp2_with (first | ((with_reducible refine gate_dst (N:=10) rfl ?_); refine box_event ?hg (N:=10) ?hd (cs:=#[.int .i64 0,.int .i64 0,.int .i64 0,.int .i64 0]) (t:=37) ?hr ?_; (case hd => rfl); (case hg => rfl); (case hr => first | (go_simp; done) | (go_simp; rfl)); intro gb235 hg w24 hbox hb; have n0_:=Aside0.mk (Kd.R_below (Kd.R_elderB (by (with_reducible repeat (first | apply Kd.R_alloc | apply Kd.R_drewN | apply Kd.R_drew)); exact HO_8.out) gb235 (Nat.le_of_eq hg.symm)) hb); have n1_:=Aside0.mk (Kd.R_below (Kd.R_elderB (by (with_reducible repeat (first | apply Kd.R_alloc | apply Kd.R_drewN | apply Kd.R_drew)); exact HO_24.out) gb235 (Nat.le_of_eq hg.symm)) hb); have n2_:=Aside0.mk (blk_below (g:=gb227) (o:=.cells #[.int .i64 a0_0,.int .i64 a0_1,.int .i64 a0_2,.int .i64 a0_3] 37 (0,0)) (by (with_reducible repeat (first | refine blk_drewN ?_ _ | refine blk_drew ?_ | refine blk_alloc ?_ _)); exact BK227.out) hb); have n3_:=Aside0.mk (blk_below (g:=gb233) (o:=.cells #[.int .i64 ((rd_T37 l1 x20_2).f0),.int .i64 ((rd_T37 l1 x20_2).f1),.int .i64 ((rd_T37 l1 x20_2).f2),.int .i64 ((rd_T37 l1 x20_2).f3)] 37 (0,0)) (by (with_reducible repeat (first | refine blk_drewN ?_ _ | refine blk_drew ?_ | refine blk_alloc ?_ _)); exact BK233.out) hb); have n4_:=Aside0.mk (below_step (by repeat (first | (with_reducible first | exact HB.out | apply below_alloc | apply pw_below_drewN | apply below_drew1 | refine below_set ?_ GE227.out | refine below_set ?_ GE233.out) | exact HB.out)) hb); have n5_:=Aside0.mk (hbox); have n6_:=Aside0.mk ((by rw [hg]; exact (below_size (by repeat (first | (with_reducible first | exact HB.out | apply below_alloc | apply pw_below_drewN | apply below_drew1 | refine below_set ?_ GE227.out | refine below_set ?_ GE233.out) | exact HB.out))):w.heap.size ≤ gb235)); have n7_:=Aside0.mk ((by rw [hg]; exact (below_size (by repeat (first | (with_reducible first | exact HB.out | apply below_alloc | apply pw_below_drewN | apply below_drew1 | refine below_set ?_ GE227.out | refine below_set ?_ GE233.out) | exact HB.out))):w.heap.size ≤ gb235)); have n8_:=Aside0.mk ((by rw [hg]; exact Nat.ne_of_lt (blk_lt (g:=gb227) (o:=.cells #[.int .i64 a0_0,.int .i64 a0_1,.int .i64 a0_2,.int .i64 a0_3] 37 (0,0)) (by (with_reducible repeat (first | refine blk_drewN ?_ _ | refine blk_drew ?_ | refine blk_alloc ?_ _)); exact BK227.out)):gb227 ≠ gb235)); have n9_:=Aside0.mk ((by rw [hg]; exact Nat.ne_of_gt (blk_lt (g:=gb227) (o:=.cells #[.int .i64 a0_0,.int .i64 a0_1,.int .i64 a0_2,.int .i64 a0_3] 37 (0,0)) (by (with_reducible repeat (first | refine blk_drewN ?_ _ | refine blk_drew ?_ | refine blk_alloc ?_ _)); exact BK227.out)):gb235 ≠ gb227)); have n10_:=Aside0.mk ((by rw [hg]; exact Nat.ne_of_lt (blk_lt (g:=gb233) (o:=.cells #[.int .i64 ((rd_T37 l1 x20_2).f0),.int .i64 ((rd_T37 l1 x20_2).f1),.int .i64 ((rd_T37 l1 x20_2).f2),.int .i64 ((rd_T37 l1 x20_2).f3)] 37 (0,0)) (by (with_reducible repeat (first | refine blk_drewN ?_ _ | refine blk_drew ?_ | refine blk_alloc ?_ _)); exact BK233.out)):gb233 ≠ gb235)); have n11_:=Aside0.mk ((by rw [hg]; exact Nat.ne_of_gt (blk_lt (g:=gb233) (o:=.cells #[.int .i64 ((rd_T37 l1 x20_2).f0),.int .i64 ((rd_T37 l1 x20_2).f1),.int .i64 ((rd_T37 l1 x20_2).f2),.int .i64 ((rd_T37 l1 x20_2).f3)] 37 (0,0)) (by (with_reducible repeat (first | refine blk_drewN ?_ _ | refine blk_drew ?_ | refine blk_alloc ?_ _)); exact BK233.out)):gb235 ≠ gb233)); clear HO_8; clear HO_24; clear BK227; clear BK233; clear HB; have HO_8:=n0_; have HO_24:=n1_; have BK227:=n2_; have BK233:=n3_; have HB:=n4_; have BK235:=n5_; have GW235:=n6_; have GE235:=n7_; have NB227_235:=n8_; have NB235_227:=n9_; have NB233_235:=n10_; have NB235_233:=n11_; clear n0_ n1_ n2_ n3_ n4_ n5_ n6_ n7_ n8_ n9_ n10_ n11_; clear hb hbox hg; have hnb25:=NB235_227.out; have hnc25:=NB227_235.out; have hnb26:=NB235_233.out; have hnc26:=NB233_235.out; have hcz27_0:w24.cell? ⟨gb235,0,none⟩ = some (.int .i64 0):=(blk_cell BK235.out 0).trans rfl; have hcz27_1:w24.cell? ⟨gb235,1,none⟩ = some (.int .i64 0):=(blk_cell BK235.out 1).trans rfl; have hcz27_2:w24.cell? ⟨gb235,2,none⟩ = some (.int .i64 0):=(blk_cell BK235.out 2).trans rfl; have hcz27_3:w24.cell? ⟨gb235,3,none⟩ = some (.int .i64 0):=(blk_cell BK235.out 3).trans rfl; have hfz27_0:=blk_frozen BK235.out 0; have hfz27_1:=blk_frozen BK235.out 1; have hfz27_2:=blk_frozen BK235.out 2; have hfz27_3:=blk_frozen BK235.out 3; have hnb28:=NB233_227.out; have hnc28:=NB227_233.out; have hcz29_0:w24.cell? ⟨gb233,0,none⟩ = some (.int .i64 ((rd_T37 l1 x20_2).f0)):=(blk_cell BK233.out 0).trans rfl; have hcz29_1:w24.cell? ⟨gb233,1,none⟩ = some (.int .i64 ((rd_T37 l1 x20_2).f1)):=(blk_cell BK233.out 1).trans rfl; have hcz29_2:w24.cell? ⟨gb233,2,none⟩ = some (.int .i64 ((rd_T37 l1 x20_2).f2)):=(blk_cell BK233.out 2).trans rfl; have hcz29_3:w24.cell? ⟨gb233,3,none⟩ = some (.int .i64 ((rd_T37 l1 x20_2).f3)):=(blk_cell BK233.out 3).trans rfl; have hfz29_0:=blk_frozen BK233.out 0; have hfz29_1:=blk_frozen BK233.out 1; have hfz29_2:=blk_frozen BK233.out 2; have hfz29_3:=blk_frozen BK233.out 3) | ((with_reducible refine gate_callee (f:=66) rfl ?_); refine goesL_ (some 33) rfl rfl Try.func66 (by kernel_rfl) rfl #[.agg #[.int .i64 ((rd_T37 x5_2 x26_3).f0),.int .i64 ((rd_T37 x5_2 x26_3).f1),.int .i64 ((rd_T37 x5_2 x26_3).f2),.int .i64 ((rd_T37 x5_2 x26_3).f3)],.agg #[.int .i64 ((rd_T37 l1 x20_2).f0),.int .i64 ((rd_T37 l1 x20_2).f1),.int .i64 ((rd_T37 l1 x20_2).f2),.int .i64 ((rd_T37 l1 x20_2).f3)]] rfl (by (try simp only [List.map_toArray,List.map_cons,List.map_nil]); first | done | rfl | (simp only [List.length_drop,List.length_take]; rfl)) ?_; (with_reducible refine (rect_Cut.calls k3 ((rd_T37 x5_2 x26_3).f0) ((rd_T37 x5_2 x26_3).f1) ((rd_T37 x5_2 x26_3).f2) ((rd_T37 x5_2 x26_3).f3) ((rd_T37 l1 x20_2).f0) ((rd_T37 l1 x20_2).f1) ((rd_T37 l1 x20_2).f2) ((rd_T37 l1 x20_2).f3) t236 _ A22.out).mono ?_); rintro e w30 ⟨v237,rfl,ho0,hb⟩; refine ⟨_,rfl,?_⟩; have n0_:=Aside0.mk (Kd.R_elder' (by (with_reducible repeat (first | apply Kd.R_alloc | apply Kd.R_drewN | apply Kd.R_drew)); exact (Kd.R_mono (Kd.R_far (p:=⟨gb235,3,none⟩) (Kd.R_far (p:=⟨gb235,2,none⟩) (Kd.R_far (p:=⟨gb235,1,none⟩) (Kd.R_far (p:=⟨gb235,0,none⟩) (Kd.R_mono HO_8.out (fun k_ hk => (⟨hk,hk.2⟩:_ ∧ k_ ≠ gb235))) (fun _ hk => hk.2) (.int .i64 ((rd_T37 x5_2 x26_3).f0))) (fun _ hk => hk.2) (.int .i64 ((rd_T37 x5_2 x26_3).f1))) (fun _ hk => hk.2) (.int .i64 ((rd_T37 x5_2 x26_3).f2))) (fun _ hk => hk.2) (.int .i64 ((rd_T37 x5_2 x26_3).f3))) (fun _ h_ => h_.1))) (Kd.R_base ho0) hb); have n1_:=Aside0.mk (Kd.R_elder' (by (with_reducible repeat (first | apply Kd.R_alloc | apply Kd.R_drewN | apply Kd.R_drew)); exact (Kd.R_mono (Kd.R_far (p:=⟨gb235,3,none⟩) (Kd.R_far (p:=⟨gb235,2,none⟩) (Kd.R_far (p:=⟨gb235,1,none⟩) (Kd.R_far (p:=⟨gb235,0,none⟩) (Kd.R_mono HO_24.out (fun k_ hk => (⟨hk,hk.2⟩:_ ∧ k_ ≠ gb235))) (fun _ hk => hk.2) (.int .i64 ((rd_T37 x5_2 x26_3).f0))) (fun _ hk => hk.2) (.int .i64 ((rd_T37 x5_2 x26_3).f1))) (fun _ hk => hk.2) (.int .i64 ((rd_T37 x5_2 x26_3).f2))) (fun _ hk => hk.2) (.int .i64 ((rd_T37 x5_2 x26_3).f3))) (fun _ h_ => h_.1))) (Kd.R_base ho0) hb); have n2_:=Aside0.mk (Kd.R_lower (Kd.R_newB (Kd.R_newB (Kd.R_newB (Kd.R_new' (Kd.R_new' ho0 (Kd.R_lt (by (with_reducible repeat (first | apply Kd.R_alloc | apply Kd.R_drewN | apply Kd.R_drew)); exact (Kd.R_mono (Kd.R_far (p:=⟨gb235,3,none⟩) (Kd.R_far (p:=⟨gb235,2,none⟩) (Kd.R_far (p:=⟨gb235,1,none⟩) (Kd.R_far (p:=⟨gb235,0,none⟩) (Kd.R_mono HO_8.out (fun k_ hk => (⟨hk,hk.2⟩:_ ∧ k_ ≠ gb235))) (fun _ hk => hk.2) (.int .i64 ((rd_T37 x5_2 x26_3).f0))) (fun _ hk => hk.2) (.int .i64 ((rd_T37 x5_2 x26_3).f1))) (fun _ hk => hk.2) (.int .i64 ((rd_T37 x5_2 x26_3).f2))) (fun _ hk => hk.2) (.int .i64 ((rd_T37 x5_2 x26_3).f3))) (fun _ h_ => h_.1))))) (Kd.R_lt (by (with_reducible repeat (first | apply Kd.R_alloc | apply Kd.R_drewN | apply Kd.R_drew)); exact (Kd.R_mono (Kd.R_far (p:=⟨gb235,3,none⟩) (Kd.R_far (p:=⟨gb235,2,none⟩) (Kd.R_far (p:=⟨gb235,1,none⟩) (Kd.R_far (p:=⟨gb235,0,none⟩) (Kd.R_mono HO_24.out (fun k_ hk => (⟨hk,hk.2⟩:_ ∧ k_ ≠ gb235))) (fun _ hk => hk.2) (.int .i64 ((rd_T37 x5_2 x26_3).f0))) (fun _ hk => hk.2) (.int .i64 ((rd_T37 x5_2 x26_3).f1))) (fun _ hk => hk.2) (.int .i64 ((rd_T37 x5_2 x26_3).f2))) (fun _ hk => hk.2) (.int .i64 ((rd_T37 x5_2 x26_3).f3))) (fun _ h_ => h_.1))))) (g:=gb227) (o:=.cells #[.int .i64 a0_0,.int .i64 a0_1,.int .i64 a0_2,.int .i64 a0_3] 37 (0,0)) (by (with_reducible repeat (first | refine blk_drewN ?_ _ | refine blk_drew ?_ | refine blk_alloc ?_ _)); refine blk_far ?_ NB227_235.out _; (with_reducible repeat (first | refine blk_drewN ?_ _ | refine blk_drew ?_ | refine blk_alloc ?_ _)); refine blk_far ?_ NB227_235.out _; (with_reducible repeat (first | refine blk_drewN ?_ _ | refine blk_drew ?_ | refine blk_alloc ?_ _)); refine blk_far ?_ NB227_235.out _; (with_reducible repeat (first | refine blk_drewN ?_ _ | refine blk_drew ?_ | refine blk_alloc ?_ _)); refine blk_far ?_ NB227_235.out _; (with_reducible repeat (first | refine blk_drewN ?_ _ | refine blk_drew ?_ | refine blk_alloc ?_ _)); exact BK227.out)) (g:=gb233) (o:=.cells #[.int .i64 ((rd_T37 l1 x20_2).f0),.int .i64 ((rd_T37 l1 x20_2).f1),.int .i64 ((rd_T37 l1 x20_2).f2),.int .i64 ((rd_T37 l1 x20_2).f3)] 37 (0,0)) (by (with_reducible repeat (first | refine blk_drewN ?_ _ | refine blk_drew ?_ | refine blk_alloc ?_ _)); refine blk_far ?_ NB233_235.out _; (with_reducible repeat (first | refine blk_drewN ?_ _ | refine blk_drew ?_ | refine blk_alloc ?_ _)); refine blk_far ?_ NB233_235.out _; (with_reducible repeat (first | refine blk_drewN ?_ _ | refine blk_drew ?_ | refine blk_alloc ?_ _)); refine blk_far ?_ NB233_235.out _; (with_reducible repeat (first | refine blk_drewN ?_ _ | refine blk_drew ?_ | refine blk_alloc ?_ _)); refine blk_far ?_ NB233_235.out _; (with_reducible repeat (first | refine blk_drewN ?_ _ | refine blk_drew ?_ | refine blk_alloc ?_ _)); exact BK233.out)) (g:=gb235) (o:=.cells #[.int .i64 ((rd_T37 x5_2 x26_3).f0),.int .i64 ((rd_T37 x5_2 x26_3).f1),.int .i64 ((rd_T37 x5_2 x26_3).f2),.int .i64 ((rd_T37 x5_2 x26_3).f3)] 37 (0,0)) (by (with_reducible repeat (first | refine blk_drewN ?_ _ | refine blk_drew ?_ | refine blk_alloc ?_ _)); refine blk_put (cs:=#[.int .i64 ((rd_T37 x5_2 x26_3).f0),.int .i64 ((rd_T37 x5_2 x26_3).f1),.int .i64 ((rd_T37 x5_2 x26_3).f2),.int .i64 0]) ?_ 3 _ rfl; (with_reducible repeat (first | refine blk_drewN ?_ _ | refine blk_drew ?_ | refine blk_alloc ?_ _)); refine blk_put (cs:=#[.int .i64 ((rd_T37 x5_2 x26_3).f0),.int .i64 ((rd_T37 x5_2 x26_3).f1),.int .i64 0,.int .i64 0]) ?_ 2 _ rfl; (with_reducible repeat (first | refine blk_drewN ?_ _ | refine blk_drew ?_ | refine blk_alloc ?_ _)); refine blk_put (cs:=#[.int .i64 ((rd_T37 x5_2 x26_3).f0),.int .i64 0,.int .i64 0,.int .i64 0]) ?_ 1 _ rfl; (with_reducible repeat (first | refine blk_drewN ?_ _ | refine blk_drew ?_ | refine blk_alloc ?_ _)); refine blk_put (cs:=#[.int .i64 0,.int .i64 0,.int .i64 0,.int .i64 0]) ?_ 0 _ rfl; (with_reducible repeat (first | refine blk_drewN ?_ _ | refine blk_drew ?_ | refine blk_alloc ?_ _)); exact BK235.out)) (below_size (by repeat (first | (with_reducible first | exact HB.out | apply below_alloc | apply pw_below_drewN | apply below_drew1 | refine below_set ?_ GE227.out | refine below_set ?_ GE233.out | refine below_set ?_ GE235.out) | exact HB.out)))); have n3_:=Aside0.mk (blk_below (g:=gb227) (o:=.cells #[.int .i64 a0_0,.int .i64 a0_1,.int .i64 a0_2,.int .i64 a0_3] 37 (0,0)) (by (with_reducible repeat (first | refine blk_drewN ?_ _ | refine blk_drew ?_ | refine blk_alloc ?_ _)); refine blk_far ?_ NB227_235.out _; (with_reducible repeat (first | refine blk_drewN ?_ _ | refine blk_drew ?_ | refine blk_alloc ?_ _)); refine blk_far ?_ NB227_235.out _; (with_reducible repeat (first | refine blk_drewN ?_ _ | refine blk_drew ?_ | refine blk_alloc ?_ _)); refine blk_far ?_ NB227_235.out _; (with_reducible repeat (first | refine blk_drewN ?_ _ | refine blk_drew ?_ | refine blk_alloc ?_ _)); refine blk_far ?_ NB227_235.out _; (with_reducible repeat (first | refine blk_drewN ?_ _ | refine blk_drew ?_ | refine blk_alloc ?_ _)); exact BK227.out) hb); have n4_:=Aside0.mk (blk_below (g:=gb233) (o:=.cells #[.int .i64 ((rd_T37 l1 x20_2).f0),.int .i64 ((rd_T37 l1 x20_2).f1),.int .i64 ((rd_T37 l1 x20_2).f2),.int .i64 ((rd_T37 l1 x20_2).f3)] 37 (0,0)) (by (with_reducible repeat (first | refine blk_drewN ?_ _ | refine blk_drew ?_ | refine blk_alloc ?_ _)); refine blk_far ?_ NB233_235.out _; (with_reducible repeat (first | refine blk_drewN ?_ _ | refine blk_drew ?_ | refine blk_alloc ?_ _)); refine blk_far ?_ NB233_235.out _; (with_reducible repeat (first | refine blk_drewN ?_ _ | refine blk_drew ?_ | refine blk_alloc ?_ _)); refine blk_far ?_ NB233_235.out _; (with_reducible repeat (first | refine blk_drewN ?_ _ | refine blk_drew ?_ | refine blk_alloc ?_ _)); refine blk_far ?_ NB233_235.out _; (with_reducible repeat (first | refine blk_drewN ?_ _ | refine blk_drew ?_ | refine blk_alloc ?_ _)); exact BK233.out) hb); have n5_:=Aside0.mk (blk_below (g:=gb235) (o:=.cells #[.int .i64 ((rd_T37 x5_2 x26_3).f0),.int .i64 ((rd_T37 x5_2 x26_3).f1),.int .i64 ((rd_T37 x5_2 x26_3).f2),.int .i64 ((rd_T37 x5_2 x26_3).f3)] 37 (0,0)) (by (with_reducible repeat (first | refine blk_drewN ?_ _ | refine blk_drew ?_ | refine blk_alloc ?_ _)); refine blk_put (cs:=#[.int .i64 ((rd_T37 x5_2 x26_3).f0),.int .i64 ((rd_T37 x5_2 x26_3).f1),.int .i64 ((rd_T37 x5_2 x26_3).f2),.int .i64 0]) ?_ 3 _ rfl; (with_reducible repeat (first | refine blk_drewN ?_ _ | refine blk_drew ?_ | refine blk_alloc ?_ _)); refine blk_put (cs:=#[.int .i64 ((rd_T37 x5_2 x26_3).f0),.int .i64 ((rd_T37 x5_2 x26_3).f1),.int .i64 0,.int .i64 0]) ?_ 2 _ rfl; (with_reducible repeat (first | refine blk_drewN ?_ _ | refine blk_drew ?_ | refine blk_alloc ?_ _)); refine blk_put (cs:=#[.int .i64 ((rd_T37 x5_2 x26_3).f0),.int .i64 0,.int .i64 0,.int .i64 0]) ?_ 1 _ rfl; (with_reducible repeat (first | refine blk_drewN ?_ _ | refine blk_drew ?_ | refine blk_alloc ?_ _)); refine blk_put (cs:=#[.int .i64 0,.int .i64 0,.int .i64 0,.int .i64 0]) ?_ 0 _ rfl; (with_reducible repeat (first | refine blk_drewN ?_ _ | refine blk_drew ?_ | refine blk_alloc ?_ _)); exact BK235.out) hb); have n6_:=Aside0.mk (below_step (by repeat (first | (with_reducible first | exact HB.out | apply below_alloc | apply pw_below_drewN | apply below_drew1 | refine below_set ?_ GE227.out | refine below_set ?_ GE233.out | refine below_set ?_ GE235.out) | exact HB.out)) hb); clear HO_8; clear HO_24; clear BK227; clear BK233; clear BK235; clear HB; have HO_8:=n0_; have HO_24:=n1_; have HO238:=n2_; have BK227:=n3_; have BK233:=n4_; have BK235:=n5_; have HB:=n6_; clear n0_ n1_ n2_ n3_ n4_ n5_ n6_; (try clear hb); (try clear hb2); (try clear hk); (try clear hi); (try clear ho0); obtain ⟨Ao32,co32,eo32⟩:=Kd.R_slice HO238.out; subst eo32) | ((with_reducible refine gate_builtin (b:=.append) (xs:=#[.tmp 30,.tmp 33]) rfl ?_); at_builtin; refine Kd.R_append_rows k37 (w0:=w) w.heap.size rfl (.tmp 30) (.tmp 33) 29 37 (.agg #[(.int .i64 0),(.int .i64 0),(.int .i64 0),(.int .i64 0)]) 32 rfl Try.underlying29 info37 rfl (by decide) (by omega) u8 x8_3 t236 _ _ _ (fun k_ => some k_ ≠ (.slice (some ad234) x5_2.length co18:Value).ownBlock ∧ some k_ ≠ (.slice Ao32 t236.length co32:Value).ownBlock ∧ k_ ≠ gb227 ∧ k_ ≠ gb233 ∧ k_ ≠ gb235) (fun _ => False) rfl rfl ?aO ?aR (fun _ _ h => h) (fun _ h => h.elim) ?aF ?aB ?aS ?aL ?_; (case aR => repeat (first | exact (Kd.R_reads' HO238.out).2.2 | (with_reducible refine Kd.C_alloc ?_ _) | (with_reducible refine Kd.C_drewN ?_ _) | (with_reducible refine Kd.C_drew ?_))); (case aB => exact (by repeat (first | (with_reducible first | exact HB.out | apply below_alloc | apply pw_below_drewN | apply below_drew1 | refine below_set ?_ GE227.out | refine below_set ?_ GE233.out | refine below_set ?_ GE235.out) | exact HB.out))); (case aF => exact (fun k_ hk => ⟨Kd.fresh' (Kd.R_lt (by (with_reducible repeat (first | apply Kd.R_alloc | apply Kd.R_drewN | apply Kd.R_drew)); exact HO_24.out)) k_ hk,Kd.fresh' (Kd.R_lt (by (with_reducible repeat (first | apply Kd.R_alloc | apply Kd.R_drewN | apply Kd.R_drew)); exact HO238.out)) k_ hk,Kd.freshB (g:=gb227) (o:=.cells #[.int .i64 a0_0,.int .i64 a0_1,.int .i64 a0_2,.int .i64 a0_3] 37 (0,0)) (by (with_reducible repeat (first | refine blk_drewN ?_ _ | refine blk_drew ?_ | refine blk_alloc ?_ _)); exact BK227.out) k_ hk,Kd.freshB (g:=gb233) (o:=.cells #[.int .i64 ((rd_T37 l1 x20_2).f0),.int .i64 ((rd_T37 l1 x20_2).f1),.int .i64 ((rd_T37 l1 x20_2).f2),.int .i64 ((rd_T37 l1 x20_2).f3)] 37 (0,0)) (by (with_reducible repeat (first | refine blk_drewN ?_ _ | refine blk_drew ?_ | refine blk_alloc ?_ _)); exact BK233.out) k_ hk,Kd.freshB (g:=gb235) (o:=.cells #[.int .i64 ((rd_T37 x5_2 x26_3).f0),.int .i64 ((rd_T37 x5_2 x26_3).f1),.int .i64 ((rd_T37 x5_2 x26_3).f2),.int .i64 ((rd_T37 x5_2 x26_3).f3)] 37 (0,0)) (by (with_reducible repeat (first | refine blk_drewN ?_ _ | refine blk_drew ?_ | refine blk_alloc ?_ _)); exact BK235.out) k_ hk⟩)); (case aO => exact (by (with_reducible repeat (first | apply Kd.R_alloc | apply Kd.R_drewN | apply Kd.R_drew)); exact Kd.R_mono HO_8.out (fun _ hk => ⟨hk.1.1.1,⟨hk.2,⟨hk.1.1.2.1,⟨hk.1.1.2.2,hk.1.2⟩⟩⟩⟩))); (case aS => exact (below_size (by repeat (first | (with_reducible first | exact HB.out | apply below_alloc | apply pw_below_drewN | apply below_drew1 | refine below_set ?_ GE227.out | refine below_set ?_ GE233.out | refine below_set ?_ GE235.out) | exact HB.out)))); (case aL => have:=LMc23.out; omega); intro v240 w31 ho hb hg hat; rw [← Ny239.out] at ho; have n0_:=Aside0.mk (Kd.R_after (ok:=(fun k_ => some k_ ≠ (.slice Ao32 t236.length co32:Value).ownBlock ∧ k_ ≠ gb227 ∧ k_ ≠ gb233 ∧ k_ ≠ gb235)) (by (with_reducible repeat (first | apply Kd.R_alloc | apply Kd.R_drewN | apply Kd.R_drew)); exact Kd.R_mono HO_24.out (fun _ hk => ⟨⟨hk.2,⟨hk.1.1.2.1,⟨hk.1.1.2.2,hk.1.2⟩⟩⟩,hk.1.1.1⟩)) hg hat); have n1_:=Aside0.mk (blk_grown (g:=gb227) (o:=.cells #[.int .i64 a0_0,.int .i64 a0_1,.int .i64 a0_2,.int .i64 a0_3] 37 (0,0)) (by (with_reducible repeat (first | refine blk_drewN ?_ _ | refine blk_drew ?_ | refine blk_alloc ?_ _)); exact BK227.out) hg (Kd.R_away HO_8.out (fun _ hk => hk.1.1.2.1))); have n2_:=Aside0.mk (blk_grown (g:=gb233) (o:=.cells #[.int .i64 ((rd_T37 l1 x20_2).f0),.int .i64 ((rd_T37 l1 x20_2).f1),.int .i64 ((rd_T37 l1 x20_2).f2),.int .i64 ((rd_T37 l1 x20_2).f3)] 37 (0,0)) (by (with_reducible repeat (first | refine blk_drewN ?_ _ | refine blk_drew ?_ | refine blk_alloc ?_ _)); exact BK233.out) hg (Kd.R_away HO_8.out (fun _ hk => hk.1.1.2.2))); have n3_:=Aside0.mk (blk_grown (g:=gb235) (o:=.cells #[.int .i64 ((rd_T37 x5_2 x26_3).f0),.int .i64 ((rd_T37 x5_2 x26_3).f1),.int .i64 ((rd_T37 x5_2 x26_3).f2),.int .i64 ((rd_T37 x5_2 x26_3).f3)] 37 (0,0)) (by (with_reducible repeat (first | refine blk_drewN ?_ _ | refine blk_drew ?_ | refine blk_alloc ?_ _)); exact BK235.out) hg (Kd.R_away HO_8.out (fun _ hk => hk.1.2))); have n4_:=Aside0.mk (Kd.R_after (ok:=(fun k_ => some k_ ≠ (.slice (some ad234) x5_2.length co18:Value).ownBlock ∧ k_ ≠ gb227 ∧ k_ ≠ gb233 ∧ k_ ≠ gb235)) (by (with_reducible repeat (first | apply Kd.R_alloc | apply Kd.R_drewN | apply Kd.R_drew)); exact Kd.R_mono HO238.out (fun _ hk => ⟨⟨hk.1.1.1.2,⟨hk.1.1.2,⟨hk.1.2,hk.2⟩⟩⟩,hk.1.1.1.1.2⟩)) hg hat); have n5_:=Aside0.mk (hb); have n6_:=Aside0.mk (ho); clear HO_24; clear BK227; clear BK233; clear BK235; clear HO238; clear HB; clear HO_8; have HO_24:=n0_; have BK227:=n1_; have BK233:=n2_; have BK235:=n3_; have HO238:=n4_; have HB:=n5_; have HO241:=n6_; clear n0_ n1_ n2_ n3_ n4_ n5_ n6_; clear ho hb hg hat))
              go_roundg k3
              case measure => have:=HJ3.out; have:=HK2.out; have:=HK3.out; omega
              case rel => exact ⟨(y239),(wrap64 (x26_3 + 1)),(by first | rfl | (simp; done) | (simp [*]; done)),H',⟨by have:=HJ3.out; have:=HK2.out; have:=HK3.out; omega⟩,⟨by (with_reducible repeat (first | apply Kd.R_alloc | apply Kd.R_drewN | apply Kd.R_drew)); exact Kd.R_mono HO241.out (fun _ hk => ⟨hk.1,⟨hk.2.2.1,hk.2.2.2.1⟩⟩)⟩,⟨by (with_reducible repeat (first | apply Kd.R_alloc | apply Kd.R_drewN | apply Kd.R_drew)); exact Kd.R_mono HO_24.out (fun _ hk => ⟨hk.2,⟨hk.1.2.1,hk.1.2.2.1⟩⟩)⟩,⟨by (with_reducible repeat (first | refine blk_drewN ?_ _ | refine blk_drew ?_ | refine blk_alloc ?_ _)); exact BK227.out⟩,⟨by (with_reducible repeat (first | refine blk_drewN ?_ _ | refine blk_drew ?_ | refine blk_alloc ?_ _)); exact BK233.out⟩,⟨by repeat (first | (with_reducible first | exact HB.out | apply below_alloc | apply pw_below_drewN | apply below_drew1 | refine below_set ?_ GE227.out | refine below_set ?_ GE233.out | refine below_set ?_ GE235.out) | exact HB.out)⟩⟩
             ·rw [if_neg c23] at H
              exact absurd H (by simp)
            ·rw [if_neg c21] at H
             exact absurd H (by simp)
           ·rw [if_neg c20] at H
            exact absurd H (by simp)
          ·rw [if_neg c19] at H
           have c19b0:decide (x26_3 < (x5_2.length:Int)) = false:=decide_eq_false c19
           clear c19
           have H':=Aside0.mk H
           clear H
           go_wp2
           go_roundg k3
           case measure => have:=HJ3.out; have:=HK2.out; have:=HK3.out; omega
           case rel => exact ⟨(x8_3),(wrap64 (x20_2 + 1)),(by first | rfl | (simp; done) | (simp [*]; done)),H',⟨by have:=HJ3.out; have:=HK2.out; have:=HK3.out; omega⟩,⟨by (with_reducible repeat (first | apply Kd.R_alloc | apply Kd.R_drewN | apply Kd.R_drew)); exact Kd.R_mono HO_8.out (fun _ hk => hk.2.1)⟩,⟨by (with_reducible repeat (first | refine blk_drewN ?_ _ | refine blk_drew ?_ | refine blk_alloc ?_ _)); exact BK227.out⟩,⟨by repeat (first | (with_reducible first | exact HB.out | apply below_alloc | apply pw_below_drewN | apply below_drew1 | refine below_set ?_ GE227.out | refine below_set ?_ GE233.out) | exact HB.out)⟩⟩
       ·rw [if_neg c14] at H
        exact absurd H (by simp)
      ·rw [if_neg c13] at H
       exact absurd H (by simp)
     ·rw [if_neg c12] at H
      have c12b0:decide (x20_2 < (l1.length:Int)) = false:=decide_eq_false c12
      clear c12
      obtain rfl:=Option.some.inj H
      go_wp2
      go_ret
      exact ⟨_,by first | rfl | (simp [errW_none,errW_some] <;> rfl) | (simp [*,errW_none,errW_some] <;> rfl),by (with_reducible repeat (first | apply Kd.R_alloc | apply Kd.R_drewN | apply Kd.R_drew)); exact Kd.R_mono HO_5.out (fun _ hk => trivial),by repeat (first | (with_reducible first | exact HB.out | apply below_alloc | apply pw_below_drewN | apply below_drew1 | refine below_set ?_ GE227.out) | exact HB.out)⟩
end Go.Proofs.Ytppklhfiajjhmaa.PPT
end
section
namespace Go.Proofs.Ytppklhfiajjhmaa.PPT
open Go.RowKit Go.Proofs.YtppklhfiajjhmaaW.PrintWords Go.Proofs.YtppklhfiajjhmaaW.PrintLast Go.Proofs.YtppklhfiajjhmaaW.PrintMore
attribute [local go_sem] max2_int min2_int max_two min_two max_three min_three max_four min_four   -- for this text's walks alone
set_option linter.unusedVariables false
set_option linter.unusedSimpArgs false
def cover_Join.l0:Nat → List (S37) → List (S37) → Int → Int → Option ((List (S37)))
 | 0,_,_,_,_ => none
 | k + 1,x3,x6,x7,x8 => if x8 < x7 then (if 0 ≤ x8 then (if x8 < (x6.length:Int) then ((cover_Rest.f k ((rd_T37 x6 x8).f0) ((rd_T37 x6 x8).f1) ((rd_T37 x6 x8).f2) ((rd_T37 x6 x8).f3) x3).bind fun t244 => (if x3.length + t244.length < 4398046511104 then (cover_Join.l0 k (x3 ++ t244) x6 x7 (wrap64 (x8 + 1))) else (none))) else (none)) else (none)) else (some x3)
def cover_Join.f (k:Nat) (l0:List (S37)):Option ((List (S37))):=cover_Join.l0 k ([]:List (S37)) l0 (l0.length:Int) 0
set_option maxHeartbeats 8000000 in
set_option maxRecDepth 100000 in
theorem cover_Join.calls (k:Nat) (A0:Option Addr) (c0:Nat) (l0:List (S37)) (r:List (S37)) (w:World) (hr0:Kd.C k37 w A0 l0.length l0) (hc0:l0.length ≤ c0) (h:cover_Join.f k l0 = some r) :
  Calls Try.prog 44 #[.slice A0 l0.length c0] w fun e w' => ∃ v0_:Value,e = .returned (v0_) ∧ Kd.R k37 37 w' w.heap.size (fun _ => True) v0_ r ∧ Below w.heap.size w w':=by
 have hu37:=Try.underlying37
 have HR0:=Aside0.mk hr0
 have HC0:=Aside0.mk hc0
 clear hr0 hc0
 have HB:=Aside0.mk (Below.refl w.heap.size w)
 have H:(cover_Join.l0 k ([]:List (S37)) l0 (l0.length:Int) 0) = some r:=h
 clear h
 have H':=Aside0.mk H
 clear H
 go_enter Try.func44,Try.ntmps44
 go_wp2
 go_loopg [3,8] k (fun kq v3 v8 w' => ∃ (x3_1:List (S37)) (x8_1:Int),v8 = .int .i64 x8_1 ∧ Aside0 (cover_Join.l0 kq x3_1 l0 (l0.length:Int) x8_1 = some r) ∧ Aside0 (kq ≤ k) ∧ Aside0 (Kd.R k37 37 w' w.heap.size (fun _ => True) v3 x3_1) ∧ Aside0 (Below w.heap.size w w'))
 case atStart => exact ⟨(([]:List (S37))),(0),(by first | rfl | (simp; done) | (simp [*]; done)),H',⟨Nat.le_refl _⟩,⟨by first | exact Kd.R_nil _ _ _ _ _ | exact Kd.N_nil _ _ _ _ _ | exact Kd.V_nil _ _ _ _ _ | exact Kd.Q_nil _ _ _ _ _ | exact Kd.S_nil _ _ _ _ _⟩,⟨by repeat (first | (with_reducible first | exact HB.out | apply below_alloc | apply pw_below_drewN | apply below_drew1) | exact HB.out)⟩⟩
 case round =>
  clear H'
  obtain ⟨x3_1,x8_1,rfl,HA,HK1,HO_3,HB⟩:=hrel
  cases gk with
  | zero => exact absurd HA.out (by simp [cover_Join.l0])
  | succ k1 =>
   have H:=HA.out
   clear HA
   simp only [cover_Join.l0] at H
   by_cases c2:x8_1 < (l0.length:Int)
   ·rw [if_pos c2] at H
    have c2b0:decide (x8_1 < (l0.length:Int)) = true:=decide_eq_true c2
    clear c2
    by_cases c3:0 ≤ x8_1
    ·rw [if_pos c3] at H
     have c3b0:decide (0 ≤ x8_1) = true:=decide_eq_true c3
     clear c3
     by_cases c4:x8_1 < (l0.length:Int)
     ·rw [if_pos c4] at H
      have c4b0:decide (x8_1 < (l0.length:Int)) = true:=decide_eq_true c4
      clear c4
      replace H:=Option.bind_eq_some_iff.mp H
      obtain ⟨t244,A50,H⟩:=H
      replace H:(if x3_1.length + t244.length < 4398046511104 then (cover_Join.l0 k1 (x3_1 ++ t244) l0 (l0.length:Int) (wrap64 (x8_1 + 1))) else (none)) = some r:=H
      have A5:=Aside0.mk A50
      clear A50
      by_cases c6:x3_1.length + t244.length < 4398046511104
      ·rw [if_pos c6] at H
       have LMc6:=Aside0.mk c6
       clear c6
       obtain ⟨y247,hy247⟩:∃ y_:List (S37),y_ = (x3_1 ++ t244):=⟨_,rfl⟩
       replace H:(cover_Join.l0 k1 y247 l0 (l0.length:Int) (wrap64 (x8_1 + 1))) = some r:=by first | (rw [hy247]; with_reducible exact H) | (have H2_:=(Option.bind_some _ _).symm.trans H; rw [hy247]; with_reducible exact H2_) | (have H2_:=(Option.bind_some _ _).symm.trans H; with_reducible exact H2_) | with_reducible exact H | (rw [hy247]; exact H) | exact H
       have Ny247:=Aside0.mk hy247
       clear hy247
       have H':=Aside0.mk H
       clear H
       have p242:0 ≤ (x8_1:Int):=of_decide_eq_true (by first | (with_reducible assumption) | assumption)
       have q242:x8_1 < (l0.length:Int):=of_decide_eq_true (by first | (with_reducible assumption) | assumption)
       obtain ⟨ad242,e242,hx242_0,hx242_1,hx242_2,hx242_3⟩:=at_T37 HR0.out x8_1 p242 q242
       cases e242
       replace hx242_0:=(HB.out.cell (World.block_lt_of_cell? w _ hx242_0)).trans hx242_0
       replace hx242_1:=(HB.out.cell (World.block_lt_of_cell? w _ hx242_1)).trans hx242_1
       replace hx242_2:=(HB.out.cell (World.block_lt_of_cell? w _ hx242_2)).trans hx242_2
       replace hx242_3:=(HB.out.cell (World.block_lt_of_cell? w _ hx242_3)).trans hx242_3
       replace p242:=eq_true p242
       replace q242:=eq_true q242
       go_wp2_with (first | ((with_reducible refine gate_dst (N:=5) rfl ?_); refine box_event ?hg (N:=5) ?hd (cs:=#[.int .i64 0,.int .i64 0,.int .i64 0,.int .i64 0]) (t:=37) ?hr ?_; (case hd => rfl); (case hg => rfl); (case hr => first | (go_simp; done) | (go_simp; rfl)); intro gb243 hg w7 hbox hb; have n0_:=Aside0.mk (Kd.R_below (Kd.R_elderB (by (with_reducible repeat (first | apply Kd.R_alloc | apply Kd.R_drewN | apply Kd.R_drew)); exact HO_3.out) gb243 (Nat.le_of_eq hg.symm)) hb); have n1_:=Aside0.mk (below_step (by repeat (first | (with_reducible first | exact HB.out | apply below_alloc | apply pw_below_drewN | apply below_drew1) | exact HB.out)) hb); have n2_:=Aside0.mk (hbox); have n3_:=Aside0.mk ((by rw [hg]; exact (below_size (by repeat (first | (with_reducible first | exact HB.out | apply below_alloc | apply pw_below_drewN | apply below_drew1) | exact HB.out))):w.heap.size ≤ gb243)); have n4_:=Aside0.mk ((by rw [hg]; exact (below_size (by repeat (first | (with_reducible first | exact HB.out | apply below_alloc | apply pw_below_drewN | apply below_drew1) | exact HB.out))):w.heap.size ≤ gb243)); clear HO_3; clear HB; have HO_3:=n0_; have HB:=n1_; have BK243:=n2_; have GW243:=n3_; have GE243:=n4_; clear n0_ n1_ n2_ n3_ n4_; clear hb hbox hg; have hcz8_0:w7.cell? ⟨gb243,0,none⟩ = some (.int .i64 0):=(blk_cell BK243.out 0).trans rfl; have hcz8_1:w7.cell? ⟨gb243,1,none⟩ = some (.int .i64 0):=(blk_cell BK243.out 1).trans rfl; have hcz8_2:w7.cell? ⟨gb243,2,none⟩ = some (.int .i64 0):=(blk_cell BK243.out 2).trans rfl; have hcz8_3:w7.cell? ⟨gb243,3,none⟩ = some (.int .i64 0):=(blk_cell BK243.out 3).trans rfl; have hfz8_0:=blk_frozen BK243.out 0; have hfz8_1:=blk_frozen BK243.out 1; have hfz8_2:=blk_frozen BK243.out 2; have hfz8_3:=blk_frozen BK243.out 3; obtain ⟨Ao9,co9,eo9⟩:=Kd.R_slice HO_3.out; subst eo9) | ((with_reducible refine gate_callee (f:=58) rfl ?_); refine goesL_ (some 15) rfl rfl Try.func58 (by kernel_rfl) rfl #[.agg #[.int .i64 ((rd_T37 l0 x8_1).f0),.int .i64 ((rd_T37 l0 x8_1).f1),.int .i64 ((rd_T37 l0 x8_1).f2),.int .i64 ((rd_T37 l0 x8_1).f3)],.slice Ao9 x3_1.length co9] rfl (by (try simp only [List.map_toArray,List.map_cons,List.map_nil]); first | done | rfl | (simp only [List.length_drop,List.length_take]; rfl)) ?_; (with_reducible refine (cover_Rest.calls k1 ((rd_T37 l0 x8_1).f0) ((rd_T37 l0 x8_1).f1) ((rd_T37 l0 x8_1).f2) ((rd_T37 l0 x8_1).f3) _ _ x3_1 t244 _ ?side1 ?side2 A5.out).mono ?_); (case side1 => refine (Kd.R_reads' (e:=37) (base:=w.heap.size) (ok:=fun k_ => (True ∧ k_ ≠ gb243)) (n:=x3_1.length) (c:=co9) ?_).2.2; exact (by (with_reducible repeat (first | apply Kd.R_alloc | apply Kd.R_drewN | apply Kd.R_drew)); exact (Kd.R_mono (Kd.R_far (p:=⟨gb243,3,none⟩) (Kd.R_far (p:=⟨gb243,2,none⟩) (Kd.R_far (p:=⟨gb243,1,none⟩) (Kd.R_far (p:=⟨gb243,0,none⟩) (Kd.R_mono HO_3.out (fun k_ hk => (⟨hk,hk.2⟩:_ ∧ k_ ≠ gb243))) (fun _ hk => hk.2) (.int .i64 ((rd_T37 l0 x8_1).f0))) (fun _ hk => hk.2) (.int .i64 ((rd_T37 l0 x8_1).f1))) (fun _ hk => hk.2) (.int .i64 ((rd_T37 l0 x8_1).f2))) (fun _ hk => hk.2) (.int .i64 ((rd_T37 l0 x8_1).f3))) (fun _ h_ => h_.1)))); (case side2 => exact (Kd.R_reads' HO_3.out).2.1); rintro e w10 ⟨v245,rfl,ho0,hb⟩; refine ⟨_,rfl,?_⟩; have n0_:=Aside0.mk (Kd.R_elder' (by (with_reducible repeat (first | apply Kd.R_alloc | apply Kd.R_drewN | apply Kd.R_drew)); exact (Kd.R_mono (Kd.R_far (p:=⟨gb243,3,none⟩) (Kd.R_far (p:=⟨gb243,2,none⟩) (Kd.R_far (p:=⟨gb243,1,none⟩) (Kd.R_far (p:=⟨gb243,0,none⟩) (Kd.R_mono HO_3.out (fun k_ hk => (⟨hk,hk.2⟩:_ ∧ k_ ≠ gb243))) (fun _ hk => hk.2) (.int .i64 ((rd_T37 l0 x8_1).f0))) (fun _ hk => hk.2) (.int .i64 ((rd_T37 l0 x8_1).f1))) (fun _ hk => hk.2) (.int .i64 ((rd_T37 l0 x8_1).f2))) (fun _ hk => hk.2) (.int .i64 ((rd_T37 l0 x8_1).f3))) (fun _ h_ => h_.1))) (Kd.R_base ho0) hb); have n1_:=Aside0.mk (Kd.R_lower (Kd.R_newB (Kd.R_new' ho0 (Kd.R_lt (by (with_reducible repeat (first | apply Kd.R_alloc | apply Kd.R_drewN | apply Kd.R_drew)); exact (Kd.R_mono (Kd.R_far (p:=⟨gb243,3,none⟩) (Kd.R_far (p:=⟨gb243,2,none⟩) (Kd.R_far (p:=⟨gb243,1,none⟩) (Kd.R_far (p:=⟨gb243,0,none⟩) (Kd.R_mono HO_3.out (fun k_ hk => (⟨hk,hk.2⟩:_ ∧ k_ ≠ gb243))) (fun _ hk => hk.2) (.int .i64 ((rd_T37 l0 x8_1).f0))) (fun _ hk => hk.2) (.int .i64 ((rd_T37 l0 x8_1).f1))) (fun _ hk => hk.2) (.int .i64 ((rd_T37 l0 x8_1).f2))) (fun _ hk => hk.2) (.int .i64 ((rd_T37 l0 x8_1).f3))) (fun _ h_ => h_.1))))) (g:=gb243) (o:=.cells #[.int .i64 ((rd_T37 l0 x8_1).f0),.int .i64 ((rd_T37 l0 x8_1).f1),.int .i64 ((rd_T37 l0 x8_1).f2),.int .i64 ((rd_T37 l0 x8_1).f3)] 37 (0,0)) (by (with_reducible repeat (first | refine blk_drewN ?_ _ | refine blk_drew ?_ | refine blk_alloc ?_ _)); refine blk_put (cs:=#[.int .i64 ((rd_T37 l0 x8_1).f0),.int .i64 ((rd_T37 l0 x8_1).f1),.int .i64 ((rd_T37 l0 x8_1).f2),.int .i64 0]) ?_ 3 _ rfl; (with_reducible repeat (first | refine blk_drewN ?_ _ | refine blk_drew ?_ | refine blk_alloc ?_ _)); refine blk_put (cs:=#[.int .i64 ((rd_T37 l0 x8_1).f0),.int .i64 ((rd_T37 l0 x8_1).f1),.int .i64 0,.int .i64 0]) ?_ 2 _ rfl; (with_reducible repeat (first | refine blk_drewN ?_ _ | refine blk_drew ?_ | refine blk_alloc ?_ _)); refine blk_put (cs:=#[.int .i64 ((rd_T37 l0 x8_1).f0),.int .i64 0,.int .i64 0,.int .i64 0]) ?_ 1 _ rfl; (with_reducible repeat (first | refine blk_drewN ?_ _ | refine blk_drew ?_ | refine blk_alloc ?_ _)); refine blk_put (cs:=#[.int .i64 0,.int .i64 0,.int .i64 0,.int .i64 0]) ?_ 0 _ rfl; (with_reducible repeat (first | refine blk_drewN ?_ _ | refine blk_drew ?_ | refine blk_alloc ?_ _)); exact BK243.out)) (below_size (by repeat (first | (with_reducible first | exact HB.out | apply below_alloc | apply pw_below_drewN | apply below_drew1 | refine below_set ?_ GE243.out) | exact HB.out)))); have n2_:=Aside0.mk (blk_below (g:=gb243) (o:=.cells #[.int .i64 ((rd_T37 l0 x8_1).f0),.int .i64 ((rd_T37 l0 x8_1).f1),.int .i64 ((rd_T37 l0 x8_1).f2),.int .i64 ((rd_T37 l0 x8_1).f3)] 37 (0,0)) (by (with_reducible repeat (first | refine blk_drewN ?_ _ | refine blk_drew ?_ | refine blk_alloc ?_ _)); refine blk_put (cs:=#[.int .i64 ((rd_T37 l0 x8_1).f0),.int .i64 ((rd_T37 l0 x8_1).f1),.int .i64 ((rd_T37 l0 x8_1).f2),.int .i64 0]) ?_ 3 _ rfl; (with_reducible repeat (first | refine blk_drewN ?_ _ | refine blk_drew ?_ | refine blk_alloc ?_ _)); refine blk_put (cs:=#[.int .i64 ((rd_T37 l0 x8_1).f0),.int .i64 ((rd_T37 l0 x8_1).f1),.int .i64 0,.int .i64 0]) ?_ 2 _ rfl; (with_reducible repeat (first | refine blk_drewN ?_ _ | refine blk_drew ?_ | refine blk_alloc ?_ _)); refine blk_put (cs:=#[.int .i64 ((rd_T37 l0 x8_1).f0),.int .i64 0,.int .i64 0,.int .i64 0]) ?_ 1 _ rfl; (with_reducible repeat (first | refine blk_drewN ?_ _ | refine blk_drew ?_ | refine blk_alloc ?_ _)); refine blk_put (cs:=#[.int .i64 0,.int .i64 0,.int .i64 0,.int .i64 0]) ?_ 0 _ rfl; (with_reducible repeat (first | refine blk_drewN ?_ _ | refine blk_drew ?_ | refine blk_alloc ?_ _)); exact BK243.out) hb); have n3_:=Aside0.mk (below_step (by repeat (first | (with_reducible first | exact HB.out | apply below_alloc | apply pw_below_drewN | apply below_drew1 | refine below_set ?_ GE243.out) | exact HB.out)) hb); clear HO_3; clear BK243; clear HB; have HO_3:=n0_; have HO246:=n1_; have BK243:=n2_; have HB:=n3_; clear n0_ n1_ n2_ n3_; (try clear hb); (try clear hb2); (try clear hk); (try clear hi); (try clear ho0); obtain ⟨Ao12,co12,eo12⟩:=Kd.R_slice HO246.out; subst eo12) | ((with_reducible refine gate_builtin (b:=.append) (xs:=#[.tmp 12,.tmp 15]) rfl ?_); at_builtin; refine Kd.R_append_rows k37 (w0:=w) w.heap.size rfl (.tmp 12) (.tmp 15) 29 37 (.agg #[(.int .i64 0),(.int .i64 0),(.int .i64 0),(.int .i64 0)]) 32 rfl Try.underlying29 info37 rfl (by decide) (by omega) (.slice Ao9 x3_1.length co9) x3_1 t244 _ _ _ (fun k_ => some k_ ≠ (.slice Ao12 t244.length co12:Value).ownBlock ∧ k_ ≠ gb243) (fun _ => False) rfl rfl ?aO ?aR (fun _ _ h => h) (fun _ h => h.elim) ?aF ?aB ?aS ?aL ?_; (case aR => repeat (first | exact (Kd.R_reads' HO246.out).2.2 | (with_reducible refine Kd.C_alloc ?_ _) | (with_reducible refine Kd.C_drewN ?_ _) | (with_reducible refine Kd.C_drew ?_))); (case aB => exact (by repeat (first | (with_reducible first | exact HB.out | apply below_alloc | apply pw_below_drewN | apply below_drew1 | refine below_set ?_ GE243.out) | exact HB.out))); (case aF => exact (fun k_ hk => ⟨Kd.fresh' (Kd.R_lt (by (with_reducible repeat (first | apply Kd.R_alloc | apply Kd.R_drewN | apply Kd.R_drew)); exact HO246.out)) k_ hk,Kd.freshB (g:=gb243) (o:=.cells #[.int .i64 ((rd_T37 l0 x8_1).f0),.int .i64 ((rd_T37 l0 x8_1).f1),.int .i64 ((rd_T37 l0 x8_1).f2),.int .i64 ((rd_T37 l0 x8_1).f3)] 37 (0,0)) (by (with_reducible repeat (first | refine blk_drewN ?_ _ | refine blk_drew ?_ | refine blk_alloc ?_ _)); exact BK243.out) k_ hk⟩)); (case aO => exact (by (with_reducible repeat (first | apply Kd.R_alloc | apply Kd.R_drewN | apply Kd.R_drew)); exact Kd.R_mono HO_3.out (fun _ hk => ⟨hk.2,hk.1.2⟩))); (case aS => exact (below_size (by repeat (first | (with_reducible first | exact HB.out | apply below_alloc | apply pw_below_drewN | apply below_drew1 | refine below_set ?_ GE243.out) | exact HB.out)))); (case aL => have:=LMc6.out; omega); intro v248 w11 ho hb hg hat; rw [← Ny247.out] at ho; have n0_:=Aside0.mk (blk_grown (g:=gb243) (o:=.cells #[.int .i64 ((rd_T37 l0 x8_1).f0),.int .i64 ((rd_T37 l0 x8_1).f1),.int .i64 ((rd_T37 l0 x8_1).f2),.int .i64 ((rd_T37 l0 x8_1).f3)] 37 (0,0)) (by (with_reducible repeat (first | refine blk_drewN ?_ _ | refine blk_drew ?_ | refine blk_alloc ?_ _)); exact BK243.out) hg (Kd.R_away HO_3.out (fun _ hk => hk.1.2))); have n1_:=Aside0.mk (Kd.R_after (ok:=(fun k_ => k_ ≠ gb243)) (by (with_reducible repeat (first | apply Kd.R_alloc | apply Kd.R_drewN | apply Kd.R_drew)); exact Kd.R_mono HO246.out (fun _ hk => ⟨hk.2,hk.1.2⟩)) hg hat); have n2_:=Aside0.mk (hb); have n3_:=Aside0.mk (ho); clear BK243; clear HO246; clear HB; clear HO_3; have BK243:=n0_; have HO246:=n1_; have HB:=n2_; have HO249:=n3_; clear n0_ n1_ n2_ n3_; clear ho hb hg hat))
       go_roundg k1
       case measure => have:=HK1.out; omega
       case rel => exact ⟨(y247),(wrap64 (x8_1 + 1)),(by first | rfl | (simp; done) | (simp [*]; done)),H',⟨by have:=HK1.out; omega⟩,⟨by (with_reducible repeat (first | apply Kd.R_alloc | apply Kd.R_drewN | apply Kd.R_drew)); exact Kd.R_mono HO249.out (fun _ hk => trivial)⟩,⟨by repeat (first | (with_reducible first | exact HB.out | apply below_alloc | apply pw_below_drewN | apply below_drew1 | refine below_set ?_ GE243.out) | exact HB.out)⟩⟩
      ·rw [if_neg c6] at H
       exact absurd H (by simp)
     ·rw [if_neg c4] at H
      exact absurd H (by simp)
    ·rw [if_neg c3] at H
     exact absurd H (by simp)
   ·rw [if_neg c2] at H
    have c2b0:decide (x8_1 < (l0.length:Int)) = false:=decide_eq_false c2
    clear c2
    obtain rfl:=Option.some.inj H
    go_wp2
    go_ret
    exact ⟨_,by first | rfl | (simp [errW_none,errW_some] <;> rfl) | (simp [*,errW_none,errW_some] <;> rfl),by (with_reducible repeat (first | apply Kd.R_alloc | apply Kd.R_drewN | apply Kd.R_drew)); exact HO_3.out,by repeat (first | (with_reducible first | exact HB.out | apply below_alloc | apply pw_below_drewN | apply below_drew1) | exact HB.out)⟩
def harm_Of.l0:Nat → List (S37) → List (S39) → Int → Int → Option ((List (S37)))
 | 0,_,_,_,_ => none
 | k + 1,x7,x18,x19,x20 => if x20 < x19 then (if 0 ≤ x20 then (if x20 < (x18.length:Int) then ((owner_Seen.f ((rd_T39 x18 x20).f0) ((rd_T39 x18 x20).f1) ((rd_T39 x18 x20).f2.f0) ((rd_T39 x18 x20).f2.f1) ((rd_T39 x18 x20).f2.f2) ((rd_T39 x18 x20).f2.f3) ((rd_T39 x18 x20).f3.f0) ((rd_T39 x18 x20).f3.f1) ((rd_T39 x18 x20).f3.f2) ((rd_T39 x18 x20).f3.f3) ((rd_T39 x18 x20).f4.f0) ((rd_T39 x18 x20).f4.f1) ((rd_T39 x18 x20).f4.f2) ((rd_T39 x18 x20).f4.f3) ((rd_T39 x18 x20).f5)).bind fun bt261 => (if x7.length < 4398046511104 then (harm_Of.l0 k (x7 ++ [(⟨bt261.1,bt261.2.1,bt261.2.2.1,bt261.2.2.2⟩:S37)]) x18 x19 (wrap64 (x20 + 1))) else (none))) else (none)) else (none)) else ((cover_Join.f k x7).bind fun t268 => (some t268))
def harm_Of.f (k:Nat) (l0:List (S39)) (l1:List (S39)):Option ((List (S37))):=(harm_Parts.f k l0 l1).bind fun bt250 => (if bt250.1.length + bt250.2.length < 1172812402961 then ((some (bt250.1 ++ bt250.2:List (S39))).bind fun y256 => (harm_Of.l0 k ([]:List (S37)) y256 (y256.length:Int) 0)) else (none))
set_option maxHeartbeats 8000000 in
set_option maxRecDepth 100000 in
theorem harm_Of.calls (k:Nat) (A0:Option Addr) (c0:Nat) (l0:List (S39)) (A1:Option Addr) (c1:Nat) (l1:List (S39)) (r:List (S37)) (w:World) (hr0:Kd.C k39 w A0 l0.length l0) (hc0:l0.length ≤ c0) (hr1:Kd.C k39 w A1 l1.length l1) (hc1:l1.length ≤ c1) (h:harm_Of.f k l0 l1 = some r) :
  Calls Try.prog 18 #[.slice A0 l0.length c0,.slice A1 l1.length c1] w fun e w' => ∃ v0_:Value,e = .returned (v0_) ∧ Kd.R k37 37 w' w.heap.size (fun _ => True) v0_ r ∧ Below w.heap.size w w':=by
 have hu39:=Try.underlying39
 have HR0:=Aside0.mk hr0
 have HC0:=Aside0.mk hc0
 clear hr0 hc0
 have HR1:=Aside0.mk hr1
 have HC1:=Aside0.mk hc1
 clear hr1 hc1
 have HB:=Aside0.mk (Below.refl w.heap.size w)
 have H:((harm_Parts.f k l0 l1).bind fun bt250 => (if bt250.1.length + bt250.2.length < 1172812402961 then ((some (bt250.1 ++ bt250.2:List (S39))).bind fun y256 => (harm_Of.l0 k ([]:List (S37)) y256 (y256.length:Int) 0)) else (none))) = some r:=h
 clear h
 replace H:=Option.bind_eq_some_iff.mp H
 obtain ⟨⟨t250,t253⟩,A30,H⟩:=H
 replace H:(if t250.length + t253.length < 1172812402961 then ((some (t250 ++ t253:List (S39))).bind fun y256 => (harm_Of.l0 k ([]:List (S37)) y256 (y256.length:Int) 0)) else (none)) = some r:=H
 have A3:=Aside0.mk A30
 clear A30
 by_cases c4:t250.length + t253.length < 1172812402961
 ·rw [if_pos c4] at H
  have LMc4:=Aside0.mk c4
  clear c4
  obtain ⟨y256,hy256⟩:∃ y_:List (S39),y_ = (t250 ++ t253):=⟨_,rfl⟩
  replace H:(harm_Of.l0 k ([]:List (S37)) y256 (y256.length:Int) 0) = some r:=by first | (rw [hy256]; with_reducible exact H) | (have H2_:=(Option.bind_some _ _).symm.trans H; rw [hy256]; with_reducible exact H2_) | (have H2_:=(Option.bind_some _ _).symm.trans H; with_reducible exact H2_) | with_reducible exact H | (rw [hy256]; exact H) | exact H
  have Ny256:=Aside0.mk hy256
  clear hy256
  have H':=Aside0.mk H
  clear H
  go_enter Try.func18,Try.ntmps18
  go_wp2_with (first | ((with_reducible refine gate_callee (f:=16) rfl ?_); refine goesL_ (some 13) rfl rfl Try.func16 (by kernel_rfl) rfl #[.slice A0 l0.length c0,.slice A1 l1.length c1] rfl (by (try simp only [List.map_toArray,List.map_cons,List.map_nil]); first | done | rfl | (simp only [List.length_drop,List.length_take]; rfl)) ?_; (with_reducible refine (harm_Parts.calls k (fun k_ => k_ < w.heap.size) _ _ l0 (fun k_ => k_ < w.heap.size) _ _ l1 t250 t253 _ ?side1 ?side2 A3.out).mono ?_); (case side1 => exact Kd.V_mk HC0.out (Kd.F_below (Kd.C_F k39_heap HR0.out) (by repeat (first | (with_reducible first | exact HB.out | apply below_alloc | apply pw_below_drewN | apply below_drew1) | exact HB.out)))); (case side2 => exact Kd.V_mk HC1.out (Kd.F_below (Kd.C_F k39_heap HR1.out) (by repeat (first | (with_reducible first | exact HB.out | apply below_alloc | apply pw_below_drewN | apply below_drew1) | exact HB.out)))); rintro e w5 ⟨v251,v254,rfl,ho0,ho1,hb⟩; refine ⟨_,rfl,?_⟩; have n0_:=Aside0.mk (Kd.R_lower (Kd.R_mono (ok':=fun k_ => some k_ ≠ (v254:Value).ownBlock) ho0 (fun _ hk_ => hk_.2)) (below_size (by repeat (first | (with_reducible first | exact HB.out | apply below_alloc | apply pw_below_drewN | apply below_drew1) | exact HB.out)))); have n1_:=Aside0.mk (Kd.R_lower (Kd.R_mono (ok':=fun k_ => some k_ ≠ (v251:Value).ownBlock) ho1 (fun _ hk_ => hk_.2)) (below_size (by repeat (first | (with_reducible first | exact HB.out | apply below_alloc | apply pw_below_drewN | apply below_drew1) | exact HB.out)))); have n2_:=Aside0.mk (below_step (by repeat (first | (with_reducible first | exact HB.out | apply below_alloc | apply pw_below_drewN | apply below_drew1) | exact HB.out)) hb); clear HB; have HO252:=n0_; have HO255:=n1_; have HB:=n2_; clear n0_ n1_ n2_; (try clear hb); (try clear hb2); (try clear hk); (try clear hi); (try clear ho0); (try clear ho1); obtain ⟨Ao7,co7,eo7⟩:=Kd.R_slice HO255.out; subst eo7) | ((with_reducible refine gate_builtin (b:=.append) (xs:=#[.tmp 16,.tmp 17]) rfl ?_); at_builtin; refine Kd.R_append_rows k39 (w0:=w) w.heap.size rfl (.tmp 16) (.tmp 17) 22 39 (.agg #[(.int .i64 0),(.int .i64 0),(.int .i64 0),(.int .i64 0),(.int .i64 0),(.int .i64 0),(.int .i64 0),(.int .i64 0),(.int .i64 0),(.int .i64 0),(.int .i64 0),(.int .i64 0),(.int .i64 0),(.int .i64 0),(.int .i64 0)]) 120 rfl Try.underlying22 info39 rfl (by decide) (by omega) v251 t250 t253 _ _ _ (fun k_ => some k_ ≠ (.slice Ao7 t253.length co7:Value).ownBlock) (fun _ => False) rfl rfl ?aO ?aR (fun _ _ h => h) (fun _ h => h.elim) ?aF ?aB ?aS ?aL ?_; (case aR => repeat (first | exact (Kd.R_reads' HO255.out).2.2 | (with_reducible refine Kd.C_alloc ?_ _) | (with_reducible refine Kd.C_drewN ?_ _) | (with_reducible refine Kd.C_drew ?_))); (case aB => exact (by repeat (first | (with_reducible first | exact HB.out | apply below_alloc | apply pw_below_drewN | apply below_drew1) | exact HB.out))); (case aF => exact (fun k_ hk => Kd.fresh' (Kd.R_lt (by (with_reducible repeat (first | apply Kd.R_alloc | apply Kd.R_drewN | apply Kd.R_drew)); exact HO255.out)) k_ hk)); (case aO => exact (by (with_reducible repeat (first | apply Kd.R_alloc | apply Kd.R_drewN | apply Kd.R_drew)); exact HO252.out)); (case aS => exact (below_size (by repeat (first | (with_reducible first | exact HB.out | apply below_alloc | apply pw_below_drewN | apply below_drew1) | exact HB.out)))); (case aL => have:=LMc4.out; omega); intro v257 w6 ho hb hg hat; rw [← Ny256.out] at ho; have n0_:=Aside0.mk (Kd.R_after (ok:=(fun _ => True)) (by (with_reducible repeat (first | apply Kd.R_alloc | apply Kd.R_drewN | apply Kd.R_drew)); exact Kd.R_mono HO255.out (fun _ hk => ⟨trivial,hk⟩)) hg hat); have n1_:=Aside0.mk (hb); have n2_:=Aside0.mk (ho); clear HO255; clear HB; clear HO252; have HO255:=n0_; have HB:=n1_; have HO258:=n2_; clear n0_ n1_ n2_; clear ho hb hg hat; obtain ⟨Ao8,co8,eo8⟩:=Kd.R_slice HO258.out; subst eo8))
  go_loopg [7,20] k (fun kq v7 v20 w' => ∃ (x7_1:List (S37)) (x20_1:Int),v20 = .int .i64 x20_1 ∧ Aside0 (harm_Of.l0 kq x7_1 y256 (y256.length:Int) x20_1 = some r) ∧ Aside0 (kq ≤ k) ∧ Aside0 (Kd.R k37 37 w' w.heap.size (fun _ => True) v7 x7_1) ∧ Aside0 (Kd.R k39 39 w' w.heap.size (fun _ => True) (.slice Ao8 y256.length co8) y256) ∧ Aside0 (Below w.heap.size w w'))
  case atStart => exact ⟨(([]:List (S37))),(0),(by first | rfl | (simp; done) | (simp [*]; done)),H',⟨Nat.le_refl _⟩,⟨by first | exact Kd.R_nil _ _ _ _ _ | exact Kd.N_nil _ _ _ _ _ | exact Kd.V_nil _ _ _ _ _ | exact Kd.Q_nil _ _ _ _ _ | exact Kd.S_nil _ _ _ _ _⟩,⟨by (with_reducible repeat (first | apply Kd.R_alloc | apply Kd.R_drewN | apply Kd.R_drew)); exact Kd.R_mono HO258.out (fun _ hk => trivial)⟩,⟨by repeat (first | (with_reducible first | exact HB.out | apply below_alloc | apply pw_below_drewN | apply below_drew1) | exact HB.out)⟩⟩
  case round =>
   clear H'
   try clear c1
   try clear p2
   try clear c4
   obtain ⟨x7_1,x20_1,rfl,HA,HK1,HO_7,HO_18,HB⟩:=hrel
   cases gk with
   | zero => exact absurd HA.out (by simp [harm_Of.l0])
   | succ k1 =>
    have H:=HA.out
    clear HA
    simp only [harm_Of.l0] at H
    by_cases c9:x20_1 < (y256.length:Int)
    ·rw [if_pos c9] at H
     have c9b0:decide (x20_1 < (y256.length:Int)) = true:=decide_eq_true c9
     clear c9
     by_cases c10:0 ≤ x20_1
     ·rw [if_pos c10] at H
      have c10b0:decide (0 ≤ x20_1) = true:=decide_eq_true c10
      clear c10
      by_cases c11:x20_1 < (y256.length:Int)
      ·rw [if_pos c11] at H
       have c11b0:decide (x20_1 < (y256.length:Int)) = true:=decide_eq_true c11
       clear c11
       replace H:=Option.bind_eq_some_iff.mp H
       obtain ⟨⟨t261,t262,t263,t264⟩,A120,H⟩:=H
       replace H:(if x7_1.length < 4398046511104 then (harm_Of.l0 k1 (x7_1 ++ [(⟨t261,t262,t263,t264⟩:S37)]) y256 (y256.length:Int) (wrap64 (x20_1 + 1))) else (none)) = some r:=H
       have A12:=Aside0.mk A120
       clear A120
       by_cases c13:x7_1.length < 4398046511104
       ·rw [if_pos c13] at H
        have LMc13:=Aside0.mk c13
        clear c13
        obtain ⟨y265,hy265⟩:∃ y_:List (S37),y_ = (x7_1 ++ [(⟨t261,t262,t263,t264⟩:S37)]):=⟨_,rfl⟩
        replace H:(harm_Of.l0 k1 y265 y256 (y256.length:Int) (wrap64 (x20_1 + 1))) = some r:=by first | (rw [hy265]; with_reducible exact H) | (have H2_:=(Option.bind_some _ _).symm.trans H; rw [hy265]; with_reducible exact H2_) | (have H2_:=(Option.bind_some _ _).symm.trans H; with_reducible exact H2_) | with_reducible exact H | (rw [hy265]; exact H) | exact H
        have Ny265:=Aside0.mk hy265
        clear hy265
        have H':=Aside0.mk H
        clear H
        have p259:0 ≤ (x20_1:Int):=of_decide_eq_true (by first | (with_reducible assumption) | assumption)
        have q259:x20_1 < (y256.length:Int):=of_decide_eq_true (by first | (with_reducible assumption) | assumption)
        obtain ⟨ad259,e259,hx259_0,hx259_1,hx259_2,hx259_3,hx259_4,hx259_5,hx259_6,hx259_7,hx259_8,hx259_9,hx259_10,hx259_11,hx259_12,hx259_13,hx259_14⟩:=at_T39 (Kd.R_reads' HO_18.out).2.2 x20_1 p259 q259
        cases e259
        replace p259:=eq_true p259
        replace q259:=eq_true q259
        go_wp2_with (first | ((with_reducible refine gate_dst (N:=9) rfl ?_); refine box_event ?hg (N:=9) ?hd (cs:=#[.int .i64 0,.int .i64 0,.int .i64 0,.int .i64 0,.int .i64 0,.int .i64 0,.int .i64 0,.int .i64 0,.int .i64 0,.int .i64 0,.int .i64 0,.int .i64 0,.int .i64 0,.int .i64 0,.int .i64 0]) (t:=39) ?hr ?_; (case hd => rfl); (case hg => rfl); (case hr => first | (go_simp; done) | (go_simp; rfl)); intro gb260 hg w14 hbox hb; have n0_:=Aside0.mk (Kd.R_below (by (with_reducible repeat (first | apply Kd.R_alloc | apply Kd.R_drewN | apply Kd.R_drew)); exact HO_7.out) hb); have n1_:=Aside0.mk (Kd.R_below (Kd.R_elderB (by (with_reducible repeat (first | apply Kd.R_alloc | apply Kd.R_drewN | apply Kd.R_drew)); exact HO_18.out) gb260 (Nat.le_of_eq hg.symm)) hb); have n2_:=Aside0.mk (below_step (by repeat (first | (with_reducible first | exact HB.out | apply below_alloc | apply pw_below_drewN | apply below_drew1) | exact HB.out)) hb); have n3_:=Aside0.mk (hbox); have n4_:=Aside0.mk ((by rw [hg]; exact (below_size (by repeat (first | (with_reducible first | exact HB.out | apply below_alloc | apply pw_below_drewN | apply below_drew1) | exact HB.out))):w.heap.size ≤ gb260)); have n5_:=Aside0.mk ((by rw [hg]; exact (below_size (by repeat (first | (with_reducible first | exact HB.out | apply below_alloc | apply pw_below_drewN | apply below_drew1) | exact HB.out))):w.heap.size ≤ gb260)); clear HO_7; clear HO_18; clear HB; have HO_7:=n0_; have HO_18:=n1_; have HB:=n2_; have BK260:=n3_; have GW260:=n4_; have GE260:=n5_; clear n0_ n1_ n2_ n3_ n4_ n5_; clear hb hbox hg; have hcz15_0:w14.cell? ⟨gb260,0,none⟩ = some (.int .i64 0):=(blk_cell BK260.out 0).trans rfl; have hcz15_1:w14.cell? ⟨gb260,1,none⟩ = some (.int .i64 0):=(blk_cell BK260.out 1).trans rfl; have hcz15_2:w14.cell? ⟨gb260,2,none⟩ = some (.int .i64 0):=(blk_cell BK260.out 2).trans rfl; have hcz15_3:w14.cell? ⟨gb260,3,none⟩ = some (.int .i64 0):=(blk_cell BK260.out 3).trans rfl; have hcz15_4:w14.cell? ⟨gb260,4,none⟩ = some (.int .i64 0):=(blk_cell BK260.out 4).trans rfl; have hcz15_5:w14.cell? ⟨gb260,5,none⟩ = some (.int .i64 0):=(blk_cell BK260.out 5).trans rfl; have hcz15_6:w14.cell? ⟨gb260,6,none⟩ = some (.int .i64 0):=(blk_cell BK260.out 6).trans rfl; have hcz15_7:w14.cell? ⟨gb260,7,none⟩ = some (.int .i64 0):=(blk_cell BK260.out 7).trans rfl; have hcz15_8:w14.cell? ⟨gb260,8,none⟩ = some (.int .i64 0):=(blk_cell BK260.out 8).trans rfl; have hcz15_9:w14.cell? ⟨gb260,9,none⟩ = some (.int .i64 0):=(blk_cell BK260.out 9).trans rfl; have hcz15_10:w14.cell? ⟨gb260,10,none⟩ = some (.int .i64 0):=(blk_cell BK260.out 10).trans rfl; have hcz15_11:w14.cell? ⟨gb260,11,none⟩ = some (.int .i64 0):=(blk_cell BK260.out 11).trans rfl; have hcz15_12:w14.cell? ⟨gb260,12,none⟩ = some (.int .i64 0):=(blk_cell BK260.out 12).trans rfl; have hcz15_13:w14.cell? ⟨gb260,13,none⟩ = some (.int .i64 0):=(blk_cell BK260.out 13).trans rfl; have hcz15_14:w14.cell? ⟨gb260,14,none⟩ = some (.int .i64 0):=(blk_cell BK260.out 14).trans rfl; have hfz15_0:=blk_frozen BK260.out 0; have hfz15_1:=blk_frozen BK260.out 1; have hfz15_2:=blk_frozen BK260.out 2; have hfz15_3:=blk_frozen BK260.out 3; have hfz15_4:=blk_frozen BK260.out 4; have hfz15_5:=blk_frozen BK260.out 5; have hfz15_6:=blk_frozen BK260.out 6; have hfz15_7:=blk_frozen BK260.out 7; have hfz15_8:=blk_frozen BK260.out 8; have hfz15_9:=blk_frozen BK260.out 9; have hfz15_10:=blk_frozen BK260.out 10; have hfz15_11:=blk_frozen BK260.out 11; have hfz15_12:=blk_frozen BK260.out 12; have hfz15_13:=blk_frozen BK260.out 13; have hfz15_14:=blk_frozen BK260.out 14) | ((with_reducible refine gate_callee (f:=43) rfl ?_); refine goesL_ (some 26) rfl rfl Try.func43 (by kernel_rfl) rfl #[.agg #[.int .i64 ((rd_T39 y256 x20_1).f0),.int .i64 ((rd_T39 y256 x20_1).f1),.int .i64 ((rd_T39 y256 x20_1).f2.f0),.int .i64 ((rd_T39 y256 x20_1).f2.f1),.int .i64 ((rd_T39 y256 x20_1).f2.f2),.int .i64 ((rd_T39 y256 x20_1).f2.f3),.int .i64 ((rd_T39 y256 x20_1).f3.f0),.int .i64 ((rd_T39 y256 x20_1).f3.f1),.int .i64 ((rd_T39 y256 x20_1).f3.f2),.int .i64 ((rd_T39 y256 x20_1).f3.f3),.int .i64 ((rd_T39 y256 x20_1).f4.f0),.int .i64 ((rd_T39 y256 x20_1).f4.f1),.int .i64 ((rd_T39 y256 x20_1).f4.f2),.int .i64 ((rd_T39 y256 x20_1).f4.f3),.int .i64 ((rd_T39 y256 x20_1).f5)]] rfl (by (try simp only [List.map_toArray,List.map_cons,List.map_nil]); first | done | rfl | (simp only [List.length_drop,List.length_take]; rfl)) ?_; (with_reducible refine (owner_Seen.calls ((rd_T39 y256 x20_1).f0) ((rd_T39 y256 x20_1).f1) ((rd_T39 y256 x20_1).f2.f0) ((rd_T39 y256 x20_1).f2.f1) ((rd_T39 y256 x20_1).f2.f2) ((rd_T39 y256 x20_1).f2.f3) ((rd_T39 y256 x20_1).f3.f0) ((rd_T39 y256 x20_1).f3.f1) ((rd_T39 y256 x20_1).f3.f2) ((rd_T39 y256 x20_1).f3.f3) ((rd_T39 y256 x20_1).f4.f0) ((rd_T39 y256 x20_1).f4.f1) ((rd_T39 y256 x20_1).f4.f2) ((rd_T39 y256 x20_1).f4.f3) ((rd_T39 y256 x20_1).f5) t261 t262 t263 t264 _ A12.out).mono ?_); rintro e w16 ⟨rfl,hb⟩; refine ⟨_,rfl,?_⟩; have n0_:=Aside0.mk (Kd.R_below (by (with_reducible repeat (first | apply Kd.R_alloc | apply Kd.R_drewN | apply Kd.R_drew)); exact (Kd.R_mono (Kd.R_far (p:=⟨gb260,14,none⟩) (Kd.R_far (p:=⟨gb260,13,none⟩) (Kd.R_far (p:=⟨gb260,12,none⟩) (Kd.R_far (p:=⟨gb260,11,none⟩) (Kd.R_far (p:=⟨gb260,10,none⟩) (Kd.R_far (p:=⟨gb260,9,none⟩) (Kd.R_far (p:=⟨gb260,8,none⟩) (Kd.R_far (p:=⟨gb260,7,none⟩) (Kd.R_far (p:=⟨gb260,6,none⟩) (Kd.R_far (p:=⟨gb260,5,none⟩) (Kd.R_far (p:=⟨gb260,4,none⟩) (Kd.R_far (p:=⟨gb260,3,none⟩) (Kd.R_far (p:=⟨gb260,2,none⟩) (Kd.R_far (p:=⟨gb260,1,none⟩) (Kd.R_far (p:=⟨gb260,0,none⟩) (Kd.R_types HO_7.out BK260.out (by decide)) (fun _ hk => hk.2) (.int .i64 ((rd_T39 y256 x20_1).f0))) (fun _ hk => hk.2) (.int .i64 ((rd_T39 y256 x20_1).f1))) (fun _ hk => hk.2) (.int .i64 ((rd_T39 y256 x20_1).f2.f0))) (fun _ hk => hk.2) (.int .i64 ((rd_T39 y256 x20_1).f2.f1))) (fun _ hk => hk.2) (.int .i64 ((rd_T39 y256 x20_1).f2.f2))) (fun _ hk => hk.2) (.int .i64 ((rd_T39 y256 x20_1).f2.f3))) (fun _ hk => hk.2) (.int .i64 ((rd_T39 y256 x20_1).f3.f0))) (fun _ hk => hk.2) (.int .i64 ((rd_T39 y256 x20_1).f3.f1))) (fun _ hk => hk.2) (.int .i64 ((rd_T39 y256 x20_1).f3.f2))) (fun _ hk => hk.2) (.int .i64 ((rd_T39 y256 x20_1).f3.f3))) (fun _ hk => hk.2) (.int .i64 ((rd_T39 y256 x20_1).f4.f0))) (fun _ hk => hk.2) (.int .i64 ((rd_T39 y256 x20_1).f4.f1))) (fun _ hk => hk.2) (.int .i64 ((rd_T39 y256 x20_1).f4.f2))) (fun _ hk => hk.2) (.int .i64 ((rd_T39 y256 x20_1).f4.f3))) (fun _ hk => hk.2) (.int .i64 ((rd_T39 y256 x20_1).f5))) (fun _ h_ => h_.1))) hb); have n1_:=Aside0.mk (Kd.R_below (by (with_reducible repeat (first | apply Kd.R_alloc | apply Kd.R_drewN | apply Kd.R_drew)); exact (Kd.R_mono (Kd.R_far (p:=⟨gb260,14,none⟩) (Kd.R_far (p:=⟨gb260,13,none⟩) (Kd.R_far (p:=⟨gb260,12,none⟩) (Kd.R_far (p:=⟨gb260,11,none⟩) (Kd.R_far (p:=⟨gb260,10,none⟩) (Kd.R_far (p:=⟨gb260,9,none⟩) (Kd.R_far (p:=⟨gb260,8,none⟩) (Kd.R_far (p:=⟨gb260,7,none⟩) (Kd.R_far (p:=⟨gb260,6,none⟩) (Kd.R_far (p:=⟨gb260,5,none⟩) (Kd.R_far (p:=⟨gb260,4,none⟩) (Kd.R_far (p:=⟨gb260,3,none⟩) (Kd.R_far (p:=⟨gb260,2,none⟩) (Kd.R_far (p:=⟨gb260,1,none⟩) (Kd.R_far (p:=⟨gb260,0,none⟩) (Kd.R_mono HO_18.out (fun k_ hk => (⟨hk,hk.2⟩:_ ∧ k_ ≠ gb260))) (fun _ hk => hk.2) (.int .i64 ((rd_T39 y256 x20_1).f0))) (fun _ hk => hk.2) (.int .i64 ((rd_T39 y256 x20_1).f1))) (fun _ hk => hk.2) (.int .i64 ((rd_T39 y256 x20_1).f2.f0))) (fun _ hk => hk.2) (.int .i64 ((rd_T39 y256 x20_1).f2.f1))) (fun _ hk => hk.2) (.int .i64 ((rd_T39 y256 x20_1).f2.f2))) (fun _ hk => hk.2) (.int .i64 ((rd_T39 y256 x20_1).f2.f3))) (fun _ hk => hk.2) (.int .i64 ((rd_T39 y256 x20_1).f3.f0))) (fun _ hk => hk.2) (.int .i64 ((rd_T39 y256 x20_1).f3.f1))) (fun _ hk => hk.2) (.int .i64 ((rd_T39 y256 x20_1).f3.f2))) (fun _ hk => hk.2) (.int .i64 ((rd_T39 y256 x20_1).f3.f3))) (fun _ hk => hk.2) (.int .i64 ((rd_T39 y256 x20_1).f4.f0))) (fun _ hk => hk.2) (.int .i64 ((rd_T39 y256 x20_1).f4.f1))) (fun _ hk => hk.2) (.int .i64 ((rd_T39 y256 x20_1).f4.f2))) (fun _ hk => hk.2) (.int .i64 ((rd_T39 y256 x20_1).f4.f3))) (fun _ hk => hk.2) (.int .i64 ((rd_T39 y256 x20_1).f5))) (fun _ h_ => h_.1))) hb); have n2_:=Aside0.mk (blk_below (g:=gb260) (o:=.cells #[.int .i64 ((rd_T39 y256 x20_1).f0),.int .i64 ((rd_T39 y256 x20_1).f1),.int .i64 ((rd_T39 y256 x20_1).f2.f0),.int .i64 ((rd_T39 y256 x20_1).f2.f1),.int .i64 ((rd_T39 y256 x20_1).f2.f2),.int .i64 ((rd_T39 y256 x20_1).f2.f3),.int .i64 ((rd_T39 y256 x20_1).f3.f0),.int .i64 ((rd_T39 y256 x20_1).f3.f1),.int .i64 ((rd_T39 y256 x20_1).f3.f2),.int .i64 ((rd_T39 y256 x20_1).f3.f3),.int .i64 ((rd_T39 y256 x20_1).f4.f0),.int .i64 ((rd_T39 y256 x20_1).f4.f1),.int .i64 ((rd_T39 y256 x20_1).f4.f2),.int .i64 ((rd_T39 y256 x20_1).f4.f3),.int .i64 ((rd_T39 y256 x20_1).f5)] 39 (0,0)) (by (with_reducible repeat (first | refine blk_drewN ?_ _ | refine blk_drew ?_ | refine blk_alloc ?_ _)); refine blk_put (cs:=#[.int .i64 ((rd_T39 y256 x20_1).f0),.int .i64 ((rd_T39 y256 x20_1).f1),.int .i64 ((rd_T39 y256 x20_1).f2.f0),.int .i64 ((rd_T39 y256 x20_1).f2.f1),.int .i64 ((rd_T39 y256 x20_1).f2.f2),.int .i64 ((rd_T39 y256 x20_1).f2.f3),.int .i64 ((rd_T39 y256 x20_1).f3.f0),.int .i64 ((rd_T39 y256 x20_1).f3.f1),.int .i64 ((rd_T39 y256 x20_1).f3.f2),.int .i64 ((rd_T39 y256 x20_1).f3.f3),.int .i64 ((rd_T39 y256 x20_1).f4.f0),.int .i64 ((rd_T39 y256 x20_1).f4.f1),.int .i64 ((rd_T39 y256 x20_1).f4.f2),.int .i64 ((rd_T39 y256 x20_1).f4.f3),.int .i64 0]) ?_ 14 _ rfl; (with_reducible repeat (first | refine blk_drewN ?_ _ | refine blk_drew ?_ | refine blk_alloc ?_ _)); refine blk_put (cs:=#[.int .i64 ((rd_T39 y256 x20_1).f0),.int .i64 ((rd_T39 y256 x20_1).f1),.int .i64 ((rd_T39 y256 x20_1).f2.f0),.int .i64 ((rd_T39 y256 x20_1).f2.f1),.int .i64 ((rd_T39 y256 x20_1).f2.f2),.int .i64 ((rd_T39 y256 x20_1).f2.f3),.int .i64 ((rd_T39 y256 x20_1).f3.f0),.int .i64 ((rd_T39 y256 x20_1).f3.f1),.int .i64 ((rd_T39 y256 x20_1).f3.f2),.int .i64 ((rd_T39 y256 x20_1).f3.f3),.int .i64 ((rd_T39 y256 x20_1).f4.f0),.int .i64 ((rd_T39 y256 x20_1).f4.f1),.int .i64 ((rd_T39 y256 x20_1).f4.f2),.int .i64 0,.int .i64 0]) ?_ 13 _ rfl; (with_reducible repeat (first | refine blk_drewN ?_ _ | refine blk_drew ?_ | refine blk_alloc ?_ _)); refine blk_put (cs:=#[.int .i64 ((rd_T39 y256 x20_1).f0),.int .i64 ((rd_T39 y256 x20_1).f1),.int .i64 ((rd_T39 y256 x20_1).f2.f0),.int .i64 ((rd_T39 y256 x20_1).f2.f1),.int .i64 ((rd_T39 y256 x20_1).f2.f2),.int .i64 ((rd_T39 y256 x20_1).f2.f3),.int .i64 ((rd_T39 y256 x20_1).f3.f0),.int .i64 ((rd_T39 y256 x20_1).f3.f1),.int .i64 ((rd_T39 y256 x20_1).f3.f2),.int .i64 ((rd_T39 y256 x20_1).f3.f3),.int .i64 ((rd_T39 y256 x20_1).f4.f0),.int .i64 ((rd_T39 y256 x20_1).f4.f1),.int .i64 0,.int .i64 0,.int .i64 0]) ?_ 12 _ rfl; (with_reducible repeat (first | refine blk_drewN ?_ _ | refine blk_drew ?_ | refine blk_alloc ?_ _)); refine blk_put (cs:=#[.int .i64 ((rd_T39 y256 x20_1).f0),.int .i64 ((rd_T39 y256 x20_1).f1),.int .i64 ((rd_T39 y256 x20_1).f2.f0),.int .i64 ((rd_T39 y256 x20_1).f2.f1),.int .i64 ((rd_T39 y256 x20_1).f2.f2),.int .i64 ((rd_T39 y256 x20_1).f2.f3),.int .i64 ((rd_T39 y256 x20_1).f3.f0),.int .i64 ((rd_T39 y256 x20_1).f3.f1),.int .i64 ((rd_T39 y256 x20_1).f3.f2),.int .i64 ((rd_T39 y256 x20_1).f3.f3),.int .i64 ((rd_T39 y256 x20_1).f4.f0),.int .i64 0,.int .i64 0,.int .i64 0,.int .i64 0]) ?_ 11 _ rfl; (with_reducible repeat (first | refine blk_drewN ?_ _ | refine blk_drew ?_ | refine blk_alloc ?_ _)); refine blk_put (cs:=#[.int .i64 ((rd_T39 y256 x20_1).f0),.int .i64 ((rd_T39 y256 x20_1).f1),.int .i64 ((rd_T39 y256 x20_1).f2.f0),.int .i64 ((rd_T39 y256 x20_1).f2.f1),.int .i64 ((rd_T39 y256 x20_1).f2.f2),.int .i64 ((rd_T39 y256 x20_1).f2.f3),.int .i64 ((rd_T39 y256 x20_1).f3.f0),.int .i64 ((rd_T39 y256 x20_1).f3.f1),.int .i64 ((rd_T39 y256 x20_1).f3.f2),.int .i64 ((rd_T39 y256 x20_1).f3.f3),.int .i64 0,.int .i64 0,.int .i64 0,.int .i64 0,.int .i64 0]) ?_ 10 _ rfl; (with_reducible repeat (first | refine blk_drewN ?_ _ | refine blk_drew ?_ | refine blk_alloc ?_ _)); refine blk_put (cs:=#[.int .i64 ((rd_T39 y256 x20_1).f0),.int .i64 ((rd_T39 y256 x20_1).f1),.int .i64 ((rd_T39 y256 x20_1).f2.f0),.int .i64 ((rd_T39 y256 x20_1).f2.f1),.int .i64 ((rd_T39 y256 x20_1).f2.f2),.int .i64 ((rd_T39 y256 x20_1).f2.f3),.int .i64 ((rd_T39 y256 x20_1).f3.f0),.int .i64 ((rd_T39 y256 x20_1).f3.f1),.int .i64 ((rd_T39 y256 x20_1).f3.f2),.int .i64 0,.int .i64 0,.int .i64 0,.int .i64 0,.int .i64 0,.int .i64 0]) ?_ 9 _ rfl; (with_reducible repeat (first | refine blk_drewN ?_ _ | refine blk_drew ?_ | refine blk_alloc ?_ _)); refine blk_put (cs:=#[.int .i64 ((rd_T39 y256 x20_1).f0),.int .i64 ((rd_T39 y256 x20_1).f1),.int .i64 ((rd_T39 y256 x20_1).f2.f0),.int .i64 ((rd_T39 y256 x20_1).f2.f1),.int .i64 ((rd_T39 y256 x20_1).f2.f2),.int .i64 ((rd_T39 y256 x20_1).f2.f3),.int .i64 ((rd_T39 y256 x20_1).f3.f0),.int .i64 ((rd_T39 y256 x20_1).f3.f1),.int .i64 0,.int .i64 0,.int .i64 0,.int .i64 0,.int .i64 0,.int .i64 0,.int .i64 0]) ?_ 8 _ rfl; (with_reducible repeat (first | refine blk_drewN ?_ _ | refine blk_drew ?_ | refine blk_alloc ?_ _)); refine blk_put (cs:=#[.int .i64 ((rd_T39 y256 x20_1).f0),.int .i64 ((rd_T39 y256 x20_1).f1),.int .i64 ((rd_T39 y256 x20_1).f2.f0),.int .i64 ((rd_T39 y256 x20_1).f2.f1),.int .i64 ((rd_T39 y256 x20_1).f2.f2),.int .i64 ((rd_T39 y256 x20_1).f2.f3),.int .i64 ((rd_T39 y256 x20_1).f3.f0),.int .i64 0,.int .i64 0,.int .i64 0,.int .i64 0,.int .i64 0,.int .i64 0,.int .i64 0,.int .i64 0]) ?_ 7 _ rfl; (with_reducible repeat (first | refine blk_drewN ?_ _ | refine blk_drew ?_ | refine blk_alloc ?_ _)); refine blk_put (cs:=#[.int .i64 ((rd_T39 y256 x20_1).f0),.int .i64 ((rd_T39 y256 x20_1).f1),.int .i64 ((rd_T39 y256 x20_1).f2.f0),.int .i64 ((rd_T39 y256 x20_1).f2.f1),.int .i64 ((rd_T39 y256 x20_1).f2.f2),.int .i64 ((rd_T39 y256 x20_1).f2.f3),.int .i64 0,.int .i64 0,.int .i64 0,.int .i64 0,.int .i64 0,.int .i64 0,.int .i64 0,.int .i64 0,.int .i64 0]) ?_ 6 _ rfl; (with_reducible repeat (first | refine blk_drewN ?_ _ | refine blk_drew ?_ | refine blk_alloc ?_ _)); refine blk_put (cs:=#[.int .i64 ((rd_T39 y256 x20_1).f0),.int .i64 ((rd_T39 y256 x20_1).f1),.int .i64 ((rd_T39 y256 x20_1).f2.f0),.int .i64 ((rd_T39 y256 x20_1).f2.f1),.int .i64 ((rd_T39 y256 x20_1).f2.f2),.int .i64 0,.int .i64 0,.int .i64 0,.int .i64 0,.int .i64 0,.int .i64 0,.int .i64 0,.int .i64 0,.int .i64 0,.int .i64 0]) ?_ 5 _ rfl; (with_reducible repeat (first | refine blk_drewN ?_ _ | refine blk_drew ?_ | refine blk_alloc ?_ _)); refine blk_put (cs:=#[.int .i64 ((rd_T39 y256 x20_1).f0),.int .i64 ((rd_T39 y256 x20_1).f1),.int .i64 ((rd_T39 y256 x20_1).f2.f0),.int .i64 ((rd_T39 y256 x20_1).f2.f1),.int .i64 0,.int .i64 0,.int .i64 0,.int .i64 0,.int .i64 0,.int .i64 0,.int .i64 0,.int .i64 0,.int .i64 0,.int .i64 0,.int .i64 0]) ?_ 4 _ rfl; (with_reducible repeat (first | refine blk_drewN ?_ _ | refine blk_drew ?_ | refine blk_alloc ?_ _)); refine blk_put (cs:=#[.int .i64 ((rd_T39 y256 x20_1).f0),.int .i64 ((rd_T39 y256 x20_1).f1),.int .i64 ((rd_T39 y256 x20_1).f2.f0),.int .i64 0,.int .i64 0,.int .i64 0,.int .i64 0,.int .i64 0,.int .i64 0,.int .i64 0,.int .i64 0,.int .i64 0,.int .i64 0,.int .i64 0,.int .i64 0]) ?_ 3 _ rfl; (with_reducible repeat (first | refine blk_drewN ?_ _ | refine blk_drew ?_ | refine blk_alloc ?_ _)); refine blk_put (cs:=#[.int .i64 ((rd_T39 y256 x20_1).f0),.int .i64 ((rd_T39 y256 x20_1).f1),.int .i64 0,.int .i64 0,.int .i64 0,.int .i64 0,.int .i64 0,.int .i64 0,.int .i64 0,.int .i64 0,.int .i64 0,.int .i64 0,.int .i64 0,.int .i64 0,.int .i64 0]) ?_ 2 _ rfl; (with_reducible repeat (first | refine blk_drewN ?_ _ | refine blk_drew ?_ | refine blk_alloc ?_ _)); refine blk_put (cs:=#[.int .i64 ((rd_T39 y256 x20_1).f0),.int .i64 0,.int .i64 0,.int .i64 0,.int .i64 0,.int .i64 0,.int .i64 0,.int .i64 0,.int .i64 0,.int .i64 0,.int .i64 0,.int .i64 0,.int .i64 0,.int .i64 0,.int .i64 0]) ?_ 1 _ rfl; (with_reducible repeat (first | refine blk_drewN ?_ _ | refine blk_drew ?_ | refine blk_alloc ?_ _)); refine blk_put (cs:=#[.int .i64 0,.int .i64 0,.int .i64 0,.int .i64 0,.int .i64 0,.int .i64 0,.int .i64 0,.int .i64 0,.int .i64 0,.int .i64 0,.int .i64 0,.int .i64 0,.int .i64 0,.int .i64 0,.int .i64 0]) ?_ 0 _ rfl; (with_reducible repeat (first | refine blk_drewN ?_ _ | refine blk_drew ?_ | refine blk_alloc ?_ _)); exact BK260.out) hb); have n3_:=Aside0.mk (below_step (by repeat (first | (with_reducible first | exact HB.out | apply below_alloc | apply pw_below_drewN | apply below_drew1 | refine below_set ?_ GE260.out) | exact HB.out)) hb); clear HO_7; clear HO_18; clear BK260; clear HB; have HO_7:=n0_; have HO_18:=n1_; have BK260:=n2_; have HB:=n3_; clear n0_ n1_ n2_ n3_; (try clear hb); (try clear hb2); (try clear hk); (try clear hi)) | ((with_reducible refine gate_builtin (b:=.append) (xs:=#[.tmp 24,.tmp 27]) rfl ?_); at_builtin; refine Kd.R_append k37 (w0:=w) w.heap.size rfl (.tmp 24) (.tmp 27) 29 37 (.agg #[(.int .i64 0),(.int .i64 0),(.int .i64 0),(.int .i64 0)]) 32 rfl Try.underlying29 info37 rfl (by decide) (by omega) u7 x7_1 (⟨t261,t262,t263,t264⟩:S37) [.int .i64 t261,.int .i64 t262,.int .i64 t263,.int .i64 t264] (fun _ => True) (fun _ => False) rfl rfl ?aP (fun _ hk => hk.elim) ?aF ?aO ?aB ?aS ?aL ?_; (case aP => exact k37_mkM _ _ _ (⟨t261,t262,t263,t264⟩:S37)); (case aB => exact (by repeat (first | (with_reducible first | exact HB.out | apply below_alloc | apply pw_below_drewN | apply below_drew1 | refine below_set ?_ GE260.out) | exact HB.out))); (case aF => exact (fun _ _ => trivial)); (case aO => exact (by (with_reducible repeat (first | apply Kd.R_alloc | apply Kd.R_drewN | apply Kd.R_drew)); exact HO_7.out)); (case aS => exact (below_size (by repeat (first | (with_reducible first | exact HB.out | apply below_alloc | apply pw_below_drewN | apply below_drew1 | refine below_set ?_ GE260.out) | exact HB.out)))); (case aL => have:=LMc13.out; omega); intro v266 w17 ho hb hg hat; rw [← Ny265.out] at ho; have n0_:=Aside0.mk (Kd.R_over' (by (with_reducible repeat (first | apply Kd.R_alloc | apply Kd.R_drewN | apply Kd.R_drew)); exact HO_18.out) (Kd.R_typed (by (with_reducible repeat (first | apply Kd.R_alloc | apply Kd.R_drewN | apply Kd.R_drew)); exact HO_7.out)) (by decide) hg); have n1_:=Aside0.mk (blk_grown (g:=gb260) (o:=.cells #[.int .i64 ((rd_T39 y256 x20_1).f0),.int .i64 ((rd_T39 y256 x20_1).f1),.int .i64 ((rd_T39 y256 x20_1).f2.f0),.int .i64 ((rd_T39 y256 x20_1).f2.f1),.int .i64 ((rd_T39 y256 x20_1).f2.f2),.int .i64 ((rd_T39 y256 x20_1).f2.f3),.int .i64 ((rd_T39 y256 x20_1).f3.f0),.int .i64 ((rd_T39 y256 x20_1).f3.f1),.int .i64 ((rd_T39 y256 x20_1).f3.f2),.int .i64 ((rd_T39 y256 x20_1).f3.f3),.int .i64 ((rd_T39 y256 x20_1).f4.f0),.int .i64 ((rd_T39 y256 x20_1).f4.f1),.int .i64 ((rd_T39 y256 x20_1).f4.f2),.int .i64 ((rd_T39 y256 x20_1).f4.f3),.int .i64 ((rd_T39 y256 x20_1).f5)] 39 (0,0)) (by (with_reducible repeat (first | refine blk_drewN ?_ _ | refine blk_drew ?_ | refine blk_alloc ?_ _)); exact BK260.out) hg (Kd.R_ne HO_7.out BK260.out (by decide))); have n2_:=Aside0.mk (hb); have n3_:=Aside0.mk (ho); clear HO_18; clear BK260; clear HB; clear HO_7; have HO_18:=n0_; have BK260:=n1_; have HB:=n2_; have HO267:=n3_; clear n0_ n1_ n2_ n3_; clear ho hb hg hat))
        go_roundg k1
        case measure => have:=HK1.out; omega
        case rel => exact ⟨(y265),(wrap64 (x20_1 + 1)),(by first | rfl | (simp; done) | (simp [*]; done)),H',⟨by have:=HK1.out; omega⟩,⟨by (with_reducible repeat (first | apply Kd.R_alloc | apply Kd.R_drewN | apply Kd.R_drew)); exact HO267.out⟩,⟨by (with_reducible repeat (first | apply Kd.R_alloc | apply Kd.R_drewN | apply Kd.R_drew)); exact Kd.R_mono HO_18.out (fun _ hk => trivial)⟩,⟨by repeat (first | (with_reducible first | exact HB.out | apply below_alloc | apply pw_below_drewN | apply below_drew1 | refine below_set ?_ GE260.out) | exact HB.out)⟩⟩
       ·rw [if_neg c13] at H
        exact absurd H (by simp)
      ·rw [if_neg c11] at H
       exact absurd H (by simp)
     ·rw [if_neg c10] at H
      exact absurd H (by simp)
    ·rw [if_neg c9] at H
     have c9b0:decide (x20_1 < (y256.length:Int)) = false:=decide_eq_false c9
     clear c9
     replace H:=Option.bind_eq_some_iff.mp H
     obtain ⟨t268,A180,H⟩:=H
     replace H:(some t268) = some r:=H
     have A18:=Aside0.mk A180
     clear A180
     obtain rfl:=Option.some.inj H
     obtain ⟨Ao19,co19,eo19⟩:=Kd.R_slice HO_7.out
     subst eo19
     go_wp2_with (first | ((with_reducible refine gate_callee (f:=44) rfl ?_); refine goesL_ (some 31) rfl rfl Try.func44 (by kernel_rfl) rfl #[.slice Ao19 x7_1.length co19] rfl (by (try simp only [List.map_toArray,List.map_cons,List.map_nil]); first | done | rfl | (simp only [List.length_drop,List.length_take]; rfl)) ?_; (with_reducible refine (cover_Join.calls k1 _ _ x7_1 t268 _ ?side1 ?side2 A18.out).mono ?_); (case side1 => repeat (first | exact (Kd.R_reads' HO_7.out).2.2 | (with_reducible refine Kd.C_alloc ?_ _) | (with_reducible refine Kd.C_drewN ?_ _) | (with_reducible refine Kd.C_drew ?_))); (case side2 => exact (Kd.R_reads' HO_7.out).2.1); rintro e w20 ⟨v269,rfl,ho0,hb⟩; refine ⟨_,rfl,?_⟩; have n0_:=Aside0.mk (Kd.R_elder' (by (with_reducible repeat (first | apply Kd.R_alloc | apply Kd.R_drewN | apply Kd.R_drew)); exact HO_7.out) (Kd.R_base ho0) hb); have n1_:=Aside0.mk (Kd.R_below (by (with_reducible repeat (first | apply Kd.R_alloc | apply Kd.R_drewN | apply Kd.R_drew)); exact HO_18.out) hb); have n2_:=Aside0.mk (Kd.R_lower (Kd.R_new' ho0 (Kd.R_lt (by (with_reducible repeat (first | apply Kd.R_alloc | apply Kd.R_drewN | apply Kd.R_drew)); exact HO_7.out))) (below_size (by repeat (first | (with_reducible first | exact HB.out | apply below_alloc | apply pw_below_drewN | apply below_drew1) | exact HB.out)))); have n3_:=Aside0.mk (below_step (by repeat (first | (with_reducible first | exact HB.out | apply below_alloc | apply pw_below_drewN | apply below_drew1) | exact HB.out)) hb); clear HO_7; clear HO_18; clear HB; have HO_7:=n0_; have HO_18:=n1_; have HO270:=n2_; have HB:=n3_; clear n0_ n1_ n2_ n3_; (try clear hb); (try clear hb2); (try clear hk); (try clear hi); (try clear ho0)))
     go_ret
     exact ⟨_,by first | rfl | (simp [errW_none,errW_some] <;> rfl) | (simp [*,errW_none,errW_some] <;> rfl),by (with_reducible repeat (first | apply Kd.R_alloc | apply Kd.R_drewN | apply Kd.R_drew)); exact Kd.R_mono HO270.out (fun _ hk => trivial),by repeat (first | (with_reducible first | exact HB.out | apply below_alloc | apply pw_below_drewN | apply below_drew1) | exact HB.out)⟩
 ·rw [if_neg c4] at H
  exact absurd H (by simp)
def decoupageref28_Right.f (a0_0:Int) (a0_1:Int) (a0_2:Int) (a0_3:Int) (a0_4:Int):Option (Bool):=if a0_3 < 1 then (some false) else (if a0_4 < 1 then (some false) else (if a0_3 > 4096 then (some false) else (if a0_3 = 0 then (none) else (if a0_4 > (wrap64 (Int.tdiv 4096 a0_3)) then (some false) else (if a0_2 ≥ 1 then (if a0_2 ≤ 1099511627776 then (if a0_0 ≥ (-1099511627776) then (if a0_0 ≤ 1099511627776 then (if a0_1 ≥ (-1099511627776) then (some (decide (a0_1 ≤ 1099511627776))) else (some false)) else (some false)) else (some false)) else (some false)) else (some false))))))
set_option maxHeartbeats 8000000 in
set_option maxRecDepth 100000 in
open Y in
theorem slim_decoupageref28_Right_ {a0_0:Int} {a0_1:Int} {a0_2:Int} {a0_3:Int} {a0_4:Int} {r:Bool} (h:decoupageref28_Right.f a0_0 a0_1 a0_2 a0_3 a0_4 = some r):((bif decide (a0_3 < 1) then some (MV.val (Value.bool false),[]) else bif decide (a0_4 < 1) then some (MV.val (Value.bool false),[]) else bif decide (a0_3 > 4096) then some (MV.val (Value.bool false),[]) else bif !decide (a0_3 = 0) then bif decide (a0_4 > IntKind.wrap IntKind.i64 (Int.tdiv 4096 a0_3)) then some (MV.val (Value.bool false),[]) else bif decide (a0_2 ≥ 1) then bif decide (a0_2 ≤ 1099511627776) then bif decide (a0_0 ≥ -1099511627776) then bif decide (a0_0 ≤ 1099511627776) then bif decide (a0_1 ≥ -1099511627776) then some (MV.val (Value.bool (decide (a0_1 ≤ 1099511627776))),[]) else some (MV.val (Value.bool false),[]) else some (MV.val (Value.bool false),[]) else some (MV.val (Value.bool false),[]) else some (MV.val (Value.bool false),[]) else some (MV.val (Value.bool false),[]) else none:Option Out)) = some (MV.val (.bool r),[]):=by
 refine Eq.trans (b:=(decoupageref28_Right.f a0_0 a0_1 a0_2 a0_3 a0_4).map fun q => (MV.val (.bool q),[])) ?_ (by rw [h]; rfl)
 simp only [decoupageref28_Right.f,SlPT.slim_bi,SlPT.slim_mi,Option.bind_some,Option.map_some,Bool.cond_eq_ite,decide_eq_true_eq,beq_iff_eq,bne_iff_ne,ne_eq,ite_not,Bool.and_eq_true,and_true,Bool.false_eq_true,if_false,if_true,i64_w,Bool.not_false,Bool.not_true,Int.zero_sub,Bool.not_eq_true',decide_eq_false_iff_not,Option.map_none] <;> (try simp only [mx,mn]) <;> rfl
theorem decoupageref28_Right.calls (a0_0:Int) (a0_1:Int) (a0_2:Int) (a0_3:Int) (a0_4:Int) (r:Bool) (w:World) (h:decoupageref28_Right.f a0_0 a0_1 a0_2 a0_3 a0_4 = some r) :
  Calls Try.prog 27 #[.agg #[.int .i64 a0_0,.int .i64 a0_1,.int .i64 a0_2,.int .i64 a0_3,.int .i64 a0_4]] w fun e w' => e = .returned (.bool r) ∧ Below w.heap.size w w':=by
 have hx:Y.xfun Try.prog SlPT.E SlPT.C43 3 27 [Y.MV.agg [Y.MV.val (.int .i64 a0_0),Y.MV.val (.int .i64 a0_1),Y.MV.val (.int .i64 a0_2),Y.MV.val (.int .i64 a0_3),Y.MV.val (.int .i64 a0_4)]] [] Y.fin = some (Y.MV.val (.bool r),[]):=by
  rw [SlPT.nf27]
  exact slim_decoupageref28_Right_ h
 refine (Y.call_of SlPT.E_ok SlPT.C43_ok (fun _ _ _ => trivial) SlPT.mixed rfl rfl hx w).mono ?_
 rintro e w' ⟨rfl,hB⟩
 exact ⟨rfl,hB⟩
def decoupageref02_Holds.f (a0_0:Int) (a0_1:Int) (a0_2:Int) (a0_3:Int) (a1:Int) (a2:Int):Option (Bool):=if a0_0 ≤ a1 then (if a1 < a0_2 then (if a0_1 ≤ a2 then (some (decide (a2 < a0_3))) else (some false)) else (some false)) else (some false)
def decoupageref26_Shows.f (a0_0:Int) (a0_1:Int) (a0_2:Int) (a0_3:Int) (a0_4:Int) (a0_5:Int) (a0_6:Int) (a0_7:Int) (a0_8:Int) (a0_9:Int) (a0_10:Int) (a0_11:Int) (a0_12:Int) (a0_13:Int) (a0_14:Int) (a1:Int) (a2:Int):Option (Bool):=if a0_1 = 1 then ((decoupageref02_Holds.f a0_6 a0_7 a0_8 a0_9 a1 a2).bind fun t274 => ((decoupageref02_Holds.f a0_2 a0_3 a0_4 a0_5 a1 a2).bind fun t275 => (if t275 = true then ((decoupageref02_Holds.f a0_10 a0_11 a0_12 a0_13 a1 a2).bind fun t276 => (if t276 = true then (some (!t274)) else (some false))) else (some false)))) else ((decoupageref02_Holds.f a0_2 a0_3 a0_4 a0_5 a1 a2).bind fun t277 => (if t277 = true then ((decoupageref02_Holds.f a0_10 a0_11 a0_12 a0_13 a1 a2).bind fun t278 => (if t278 = true then (some (!false)) else (some false))) else (some false)))
set_option maxHeartbeats 8000000 in
set_option maxRecDepth 100000 in
open Y in
theorem slim_decoupageref26_Shows_ {a0_0:Int} {a0_1:Int} {a0_2:Int} {a0_3:Int} {a0_4:Int} {a0_5:Int} {a0_6:Int} {a0_7:Int} {a0_8:Int} {a0_9:Int} {a0_10:Int} {a0_11:Int} {a0_12:Int} {a0_13:Int} {a0_14:Int} {a1:Int} {a2:Int} {r:Bool} (h:decoupageref26_Shows.f a0_0 a0_1 a0_2 a0_3 a0_4 a0_5 a0_6 a0_7 a0_8 a0_9 a0_10 a0_11 a0_12 a0_13 a0_14 a1 a2 = some r):((bif a0_1 == 1 then bif decide (a0_6 ≤ a1) then bif decide (a1 < a0_8) then bif decide (a0_7 ≤ a2) then bif decide (a0_2 ≤ a1) then bif decide (a1 < a0_4) then bif decide (a0_3 ≤ a2) then bif decide (a2 < a0_5) then bif decide (a0_10 ≤ a1) then bif decide (a1 < a0_12) then bif decide (a0_11 ≤ a2) then bif decide (a2 < a0_13) then some (MV.val (Value.bool !decide (a2 < a0_9)),[]) else some (MV.val (Value.bool false),[]) else some (MV.val (Value.bool false),[]) else some (MV.val (Value.bool false),[]) else some (MV.val (Value.bool false),[]) else some (MV.val (Value.bool false),[]) else some (MV.val (Value.bool false),[]) else some (MV.val (Value.bool false),[]) else some (MV.val (Value.bool false),[]) else bif decide (a0_2 ≤ a1) then bif decide (a1 < a0_4) then bif decide (a0_3 ≤ a2) then bif decide (a2 < a0_5) then bif decide (a0_10 ≤ a1) then bif decide (a1 < a0_12) then bif decide (a0_11 ≤ a2) then bif decide (a2 < a0_13) then some (MV.val (Value.bool !false),[]) else some (MV.val (Value.bool false),[]) else some (MV.val (Value.bool false),[]) else some (MV.val (Value.bool false),[]) else some (MV.val (Value.bool false),[]) else some (MV.val (Value.bool false),[]) else some (MV.val (Value.bool false),[]) else some (MV.val (Value.bool false),[]) else some (MV.val (Value.bool false),[]) else bif decide (a0_2 ≤ a1) then bif decide (a1 < a0_4) then bif decide (a0_3 ≤ a2) then bif decide (a2 < a0_5) then bif decide (a0_10 ≤ a1) then bif decide (a1 < a0_12) then bif decide (a0_11 ≤ a2) then bif decide (a2 < a0_13) then some (MV.val (Value.bool !false),[]) else some (MV.val (Value.bool false),[]) else some (MV.val (Value.bool false),[]) else some (MV.val (Value.bool false),[]) else some (MV.val (Value.bool false),[]) else some (MV.val (Value.bool false),[]) else some (MV.val (Value.bool false),[]) else some (MV.val (Value.bool false),[]) else some (MV.val (Value.bool false),[]) else bif decide (a0_2 ≤ a1) then bif decide (a1 < a0_4) then bif decide (a0_3 ≤ a2) then bif decide (a2 < a0_5) then bif decide (a0_10 ≤ a1) then bif decide (a1 < a0_12) then bif decide (a0_11 ≤ a2) then bif decide (a2 < a0_13) then some (MV.val (Value.bool !false),[]) else some (MV.val (Value.bool false),[]) else some (MV.val (Value.bool false),[]) else some (MV.val (Value.bool false),[]) else some (MV.val (Value.bool false),[]) else some (MV.val (Value.bool false),[]) else some (MV.val (Value.bool false),[]) else some (MV.val (Value.bool false),[]) else some (MV.val (Value.bool false),[]) else bif decide (a0_2 ≤ a1) then bif decide (a1 < a0_4) then bif decide (a0_3 ≤ a2) then bif decide (a2 < a0_5) then bif decide (a0_10 ≤ a1) then bif decide (a1 < a0_12) then bif decide (a0_11 ≤ a2) then bif decide (a2 < a0_13) then some (MV.val (Value.bool !false),[]) else some (MV.val (Value.bool false),[]) else some (MV.val (Value.bool false),[]) else some (MV.val (Value.bool false),[]) else some (MV.val (Value.bool false),[]) else some (MV.val (Value.bool false),[]) else some (MV.val (Value.bool false),[]) else some (MV.val (Value.bool false),[]) else some (MV.val (Value.bool false),[]):Option Out)) = some (MV.val (.bool r),[]):=by
 refine Eq.trans (b:=(decoupageref26_Shows.f a0_0 a0_1 a0_2 a0_3 a0_4 a0_5 a0_6 a0_7 a0_8 a0_9 a0_10 a0_11 a0_12 a0_13 a0_14 a1 a2).map fun q => (MV.val (.bool q),[])) ?_ (by rw [h]; rfl)
 simp only [decoupageref26_Shows.f,decoupageref02_Holds.f,SlPT.slim_bi,SlPT.slim_mi,Option.bind_some,Option.map_some,Bool.cond_eq_ite,decide_eq_true_eq,beq_iff_eq,bne_iff_ne,ne_eq,ite_not,Bool.and_eq_true,and_true,Bool.false_eq_true,if_false,if_true,i64_w,Bool.not_false,Bool.not_true,Int.zero_sub,Bool.not_eq_true',decide_eq_false_iff_not,Option.map_none] <;> (try simp only [mx,mn]) <;> rfl
theorem decoupageref26_Shows.calls (a0_0:Int) (a0_1:Int) (a0_2:Int) (a0_3:Int) (a0_4:Int) (a0_5:Int) (a0_6:Int) (a0_7:Int) (a0_8:Int) (a0_9:Int) (a0_10:Int) (a0_11:Int) (a0_12:Int) (a0_13:Int) (a0_14:Int) (a1:Int) (a2:Int) (r:Bool) (w:World) (h:decoupageref26_Shows.f a0_0 a0_1 a0_2 a0_3 a0_4 a0_5 a0_6 a0_7 a0_8 a0_9 a0_10 a0_11 a0_12 a0_13 a0_14 a1 a2 = some r) :
  Calls Try.prog 48 #[.agg #[.int .i64 a0_0,.int .i64 a0_1,.int .i64 a0_2,.int .i64 a0_3,.int .i64 a0_4,.int .i64 a0_5,.int .i64 a0_6,.int .i64 a0_7,.int .i64 a0_8,.int .i64 a0_9,.int .i64 a0_10,.int .i64 a0_11,.int .i64 a0_12,.int .i64 a0_13,.int .i64 a0_14],.int .i64 a1,.int .i64 a2] w fun e w' => e = .returned (.bool r) ∧ Below w.heap.size w w':=by
 have hx:Y.xfun Try.prog SlPT.E SlPT.C47 3 48 [Y.MV.agg [Y.MV.val (.int .i64 a0_0),Y.MV.val (.int .i64 a0_1),Y.MV.val (.int .i64 a0_2),Y.MV.val (.int .i64 a0_3),Y.MV.val (.int .i64 a0_4),Y.MV.val (.int .i64 a0_5),Y.MV.val (.int .i64 a0_6),Y.MV.val (.int .i64 a0_7),Y.MV.val (.int .i64 a0_8),Y.MV.val (.int .i64 a0_9),Y.MV.val (.int .i64 a0_10),Y.MV.val (.int .i64 a0_11),Y.MV.val (.int .i64 a0_12),Y.MV.val (.int .i64 a0_13),Y.MV.val (.int .i64 a0_14)],Y.MV.val (.int .i64 a1),Y.MV.val (.int .i64 a2)] [] Y.fin = some (Y.MV.val (.bool r),[]):=by
  rw [SlPT.nf48]
  exact slim_decoupageref26_Shows_ h
 refine (Y.call_of SlPT.E_ok SlPT.C47_ok (fun _ _ _ => trivial) SlPT.mixed rfl rfl hx w).mono ?_
 rintro e w' ⟨rfl,hB⟩
 exact ⟨rfl,hB⟩
def decoupageref26_Owner.l0:Nat → List (S39) → Int → Int → Int → Int → Int → Option (Int)
 | 0,_,_,_,_,_,_ => none
 | k + 1,x0,x1,x2,x7,x10,x11 => if x11 < x10 then (if 0 ≤ x11 then (if x11 < (x0.length:Int) then ((decoupageref26_Shows.f ((rd_T39 x0 x11).f0) ((rd_T39 x0 x11).f1) ((rd_T39 x0 x11).f2.f0) ((rd_T39 x0 x11).f2.f1) ((rd_T39 x0 x11).f2.f2) ((rd_T39 x0 x11).f2.f3) ((rd_T39 x0 x11).f3.f0) ((rd_T39 x0 x11).f3.f1) ((rd_T39 x0 x11).f3.f2) ((rd_T39 x0 x11).f3.f3) ((rd_T39 x0 x11).f4.f0) ((rd_T39 x0 x11).f4.f1) ((rd_T39 x0 x11).f4.f2) ((rd_T39 x0 x11).f4.f3) ((rd_T39 x0 x11).f5) x1 x2).bind fun t280 => (if t280 = true then (decoupageref26_Owner.l0 k x0 x1 x2 x11 x10 (wrap64 (x11 + 1))) else (decoupageref26_Owner.l0 k x0 x1 x2 x7 x10 (wrap64 (x11 + 1))))) else (none)) else (none)) else (some x7)
def decoupageref26_Owner.f (k:Nat) (l0:List (S39)) (a1:Int) (a2:Int):Option (Int):=decoupageref26_Owner.l0 k l0 a1 a2 (-1) (l0.length:Int) 0
set_option maxHeartbeats 8000000 in
set_option maxRecDepth 100000 in
theorem decoupageref26_Owner.calls (k:Nat) (A0:Option Addr) (c0:Nat) (l0:List (S39)) (a1:Int) (a2:Int) (r:Int) (w:World) (hr0:Kd.C k39 w A0 l0.length l0) (hc0:l0.length ≤ c0) (h:decoupageref26_Owner.f k l0 a1 a2 = some r) :
  Calls Try.prog 22 #[.slice A0 l0.length c0,.int .i64 a1,.int .i64 a2] w fun e w' => e = .returned (.int .i64 r) ∧ Below w.heap.size w w':=by
 have hu39:=Try.underlying39
 have HR0:=Aside0.mk hr0
 have HC0:=Aside0.mk hc0
 clear hr0 hc0
 have HB:=Aside0.mk (Below.refl w.heap.size w)
 have H:(decoupageref26_Owner.l0 k l0 a1 a2 (-1) (l0.length:Int) 0) = some r:=h
 clear h
 have H':=Aside0.mk H
 clear H
 go_enter Try.func22,Try.ntmps22
 go_wp2
 go_loopg [7,11] k (fun kq v7 v11 w' => ∃ (x7_1:Int) (x11_1:Int),v7 = .int .i64 x7_1 ∧ v11 = .int .i64 x11_1 ∧ Aside0 (decoupageref26_Owner.l0 kq l0 a1 a2 x7_1 (l0.length:Int) x11_1 = some r) ∧ Aside0 (kq ≤ k) ∧ Aside0 (Below w.heap.size w w'))
 case atStart => exact ⟨((-1)),(0),(by first | rfl | (simp; done) | (simp [*]; done)),(by first | rfl | (simp; done) | (simp [*]; done)),H',⟨Nat.le_refl _⟩,⟨by repeat (first | (with_reducible first | exact HB.out | apply below_alloc | apply pw_below_drewN | apply below_drew1) | exact HB.out)⟩⟩
 case round =>
  clear H'
  try clear c2
  try clear p2
  obtain ⟨x7_1,x11_1,rfl,rfl,HA,HK1,HB⟩:=hrel
  cases gk with
  | zero => exact absurd HA.out (by simp [decoupageref26_Owner.l0])
  | succ k1 =>
   have H:=HA.out
   clear HA
   simp only [decoupageref26_Owner.l0] at H
   by_cases c4:x11_1 < (l0.length:Int)
   ·rw [if_pos c4] at H
    have c4b0:decide (x11_1 < (l0.length:Int)) = true:=decide_eq_true c4
    clear c4
    by_cases c5:0 ≤ x11_1
    ·rw [if_pos c5] at H
     have c5b0:decide (0 ≤ x11_1) = true:=decide_eq_true c5
     clear c5
     by_cases c6:x11_1 < (l0.length:Int)
     ·rw [if_pos c6] at H
      have c6b0:decide (x11_1 < (l0.length:Int)) = true:=decide_eq_true c6
      clear c6
      replace H:=Option.bind_eq_some_iff.mp H
      obtain ⟨t280,A70,H⟩:=H
      replace H:(if t280 = true then (decoupageref26_Owner.l0 k1 l0 a1 a2 x11_1 (l0.length:Int) (wrap64 (x11_1 + 1))) else (decoupageref26_Owner.l0 k1 l0 a1 a2 x7_1 (l0.length:Int) (wrap64 (x11_1 + 1)))) = some r:=H
      have A7:=Aside0.mk A70
      clear A70
      by_cases c8:t280 = true
      ·subst c8
       have H1:(decoupageref26_Owner.l0 k1 l0 a1 a2 x11_1 (l0.length:Int) (wrap64 (x11_1 + 1))) = some r:=by rw [if_pos rfl] at H; exact H
       clear H
       have H:=H1
       clear H1
       have H':=Aside0.mk H
       clear H
       have p279:0 ≤ (x11_1:Int):=of_decide_eq_true (by first | (with_reducible assumption) | assumption)
       have q279:x11_1 < (l0.length:Int):=of_decide_eq_true (by first | (with_reducible assumption) | assumption)
       obtain ⟨ad279,e279,hx279_0,hx279_1,hx279_2,hx279_3,hx279_4,hx279_5,hx279_6,hx279_7,hx279_8,hx279_9,hx279_10,hx279_11,hx279_12,hx279_13,hx279_14⟩:=at_T39 HR0.out x11_1 p279 q279
       cases e279
       replace hx279_0:=(HB.out.cell (World.block_lt_of_cell? w _ hx279_0)).trans hx279_0
       replace hx279_1:=(HB.out.cell (World.block_lt_of_cell? w _ hx279_1)).trans hx279_1
       replace hx279_2:=(HB.out.cell (World.block_lt_of_cell? w _ hx279_2)).trans hx279_2
       replace hx279_3:=(HB.out.cell (World.block_lt_of_cell? w _ hx279_3)).trans hx279_3
       replace hx279_4:=(HB.out.cell (World.block_lt_of_cell? w _ hx279_4)).trans hx279_4
       replace hx279_5:=(HB.out.cell (World.block_lt_of_cell? w _ hx279_5)).trans hx279_5
       replace hx279_6:=(HB.out.cell (World.block_lt_of_cell? w _ hx279_6)).trans hx279_6
       replace hx279_7:=(HB.out.cell (World.block_lt_of_cell? w _ hx279_7)).trans hx279_7
       replace hx279_8:=(HB.out.cell (World.block_lt_of_cell? w _ hx279_8)).trans hx279_8
       replace hx279_9:=(HB.out.cell (World.block_lt_of_cell? w _ hx279_9)).trans hx279_9
       replace hx279_10:=(HB.out.cell (World.block_lt_of_cell? w _ hx279_10)).trans hx279_10
       replace hx279_11:=(HB.out.cell (World.block_lt_of_cell? w _ hx279_11)).trans hx279_11
       replace hx279_12:=(HB.out.cell (World.block_lt_of_cell? w _ hx279_12)).trans hx279_12
       replace hx279_13:=(HB.out.cell (World.block_lt_of_cell? w _ hx279_13)).trans hx279_13
       replace hx279_14:=(HB.out.cell (World.block_lt_of_cell? w _ hx279_14)).trans hx279_14
       replace p279:=eq_true p279
       replace q279:=eq_true q279
       go_wp2_with (first | ((with_reducible refine gate_callee (f:=48) rfl ?_); refine goesL_ (some 20) rfl rfl Try.func48 (by kernel_rfl) rfl #[.agg #[.int .i64 ((rd_T39 l0 x11_1).f0),.int .i64 ((rd_T39 l0 x11_1).f1),.int .i64 ((rd_T39 l0 x11_1).f2.f0),.int .i64 ((rd_T39 l0 x11_1).f2.f1),.int .i64 ((rd_T39 l0 x11_1).f2.f2),.int .i64 ((rd_T39 l0 x11_1).f2.f3),.int .i64 ((rd_T39 l0 x11_1).f3.f0),.int .i64 ((rd_T39 l0 x11_1).f3.f1),.int .i64 ((rd_T39 l0 x11_1).f3.f2),.int .i64 ((rd_T39 l0 x11_1).f3.f3),.int .i64 ((rd_T39 l0 x11_1).f4.f0),.int .i64 ((rd_T39 l0 x11_1).f4.f1),.int .i64 ((rd_T39 l0 x11_1).f4.f2),.int .i64 ((rd_T39 l0 x11_1).f4.f3),.int .i64 ((rd_T39 l0 x11_1).f5)],.int .i64 a1,.int .i64 a2] rfl (by (try simp only [List.map_toArray,List.map_cons,List.map_nil]); first | done | rfl | (simp only [List.length_drop,List.length_take]; rfl)) ?_; (with_reducible refine (decoupageref26_Shows.calls ((rd_T39 l0 x11_1).f0) ((rd_T39 l0 x11_1).f1) ((rd_T39 l0 x11_1).f2.f0) ((rd_T39 l0 x11_1).f2.f1) ((rd_T39 l0 x11_1).f2.f2) ((rd_T39 l0 x11_1).f2.f3) ((rd_T39 l0 x11_1).f3.f0) ((rd_T39 l0 x11_1).f3.f1) ((rd_T39 l0 x11_1).f3.f2) ((rd_T39 l0 x11_1).f3.f3) ((rd_T39 l0 x11_1).f4.f0) ((rd_T39 l0 x11_1).f4.f1) ((rd_T39 l0 x11_1).f4.f2) ((rd_T39 l0 x11_1).f4.f3) ((rd_T39 l0 x11_1).f5) a1 a2 true _ A7.out).mono ?_); rintro e w9 ⟨rfl,hb⟩; refine ⟨_,rfl,?_⟩; have n0_:=Aside0.mk (below_step (by repeat (first | (with_reducible first | exact HB.out | apply below_alloc | apply pw_below_drewN | apply below_drew1) | exact HB.out)) hb); clear HB; have HB:=n0_; clear n0_; (try clear hb); (try clear hb2); (try clear hk); (try clear hi)))
       go_roundg k1
       case measure => have:=HK1.out; omega
       case rel => exact ⟨(x11_1),(wrap64 (x11_1 + 1)),(by first | rfl | (simp; done) | (simp [*]; done)),(by first | rfl | (simp; done) | (simp [*]; done)),H',⟨by have:=HK1.out; omega⟩,⟨by repeat (first | (with_reducible first | exact HB.out | apply below_alloc | apply pw_below_drewN | apply below_drew1) | exact HB.out)⟩⟩
      ·replace c8:=Bool.eq_false_iff.mpr c8
       subst c8
       have H1:(decoupageref26_Owner.l0 k1 l0 a1 a2 x7_1 (l0.length:Int) (wrap64 (x11_1 + 1))) = some r:=by rw [if_neg (show ¬ (false = true) by decide)] at H; exact H
       clear H
       have H:=H1
       clear H1
       have H':=Aside0.mk H
       clear H
       have p279:0 ≤ (x11_1:Int):=of_decide_eq_true (by first | (with_reducible assumption) | assumption)
       have q279:x11_1 < (l0.length:Int):=of_decide_eq_true (by first | (with_reducible assumption) | assumption)
       obtain ⟨ad279,e279,hx279_0,hx279_1,hx279_2,hx279_3,hx279_4,hx279_5,hx279_6,hx279_7,hx279_8,hx279_9,hx279_10,hx279_11,hx279_12,hx279_13,hx279_14⟩:=at_T39 HR0.out x11_1 p279 q279
       cases e279
       replace hx279_0:=(HB.out.cell (World.block_lt_of_cell? w _ hx279_0)).trans hx279_0
       replace hx279_1:=(HB.out.cell (World.block_lt_of_cell? w _ hx279_1)).trans hx279_1
       replace hx279_2:=(HB.out.cell (World.block_lt_of_cell? w _ hx279_2)).trans hx279_2
       replace hx279_3:=(HB.out.cell (World.block_lt_of_cell? w _ hx279_3)).trans hx279_3
       replace hx279_4:=(HB.out.cell (World.block_lt_of_cell? w _ hx279_4)).trans hx279_4
       replace hx279_5:=(HB.out.cell (World.block_lt_of_cell? w _ hx279_5)).trans hx279_5
       replace hx279_6:=(HB.out.cell (World.block_lt_of_cell? w _ hx279_6)).trans hx279_6
       replace hx279_7:=(HB.out.cell (World.block_lt_of_cell? w _ hx279_7)).trans hx279_7
       replace hx279_8:=(HB.out.cell (World.block_lt_of_cell? w _ hx279_8)).trans hx279_8
       replace hx279_9:=(HB.out.cell (World.block_lt_of_cell? w _ hx279_9)).trans hx279_9
       replace hx279_10:=(HB.out.cell (World.block_lt_of_cell? w _ hx279_10)).trans hx279_10
       replace hx279_11:=(HB.out.cell (World.block_lt_of_cell? w _ hx279_11)).trans hx279_11
       replace hx279_12:=(HB.out.cell (World.block_lt_of_cell? w _ hx279_12)).trans hx279_12
       replace hx279_13:=(HB.out.cell (World.block_lt_of_cell? w _ hx279_13)).trans hx279_13
       replace hx279_14:=(HB.out.cell (World.block_lt_of_cell? w _ hx279_14)).trans hx279_14
       replace p279:=eq_true p279
       replace q279:=eq_true q279
       go_wp2_with (first | ((with_reducible refine gate_callee (f:=48) rfl ?_); refine goesL_ (some 20) rfl rfl Try.func48 (by kernel_rfl) rfl #[.agg #[.int .i64 ((rd_T39 l0 x11_1).f0),.int .i64 ((rd_T39 l0 x11_1).f1),.int .i64 ((rd_T39 l0 x11_1).f2.f0),.int .i64 ((rd_T39 l0 x11_1).f2.f1),.int .i64 ((rd_T39 l0 x11_1).f2.f2),.int .i64 ((rd_T39 l0 x11_1).f2.f3),.int .i64 ((rd_T39 l0 x11_1).f3.f0),.int .i64 ((rd_T39 l0 x11_1).f3.f1),.int .i64 ((rd_T39 l0 x11_1).f3.f2),.int .i64 ((rd_T39 l0 x11_1).f3.f3),.int .i64 ((rd_T39 l0 x11_1).f4.f0),.int .i64 ((rd_T39 l0 x11_1).f4.f1),.int .i64 ((rd_T39 l0 x11_1).f4.f2),.int .i64 ((rd_T39 l0 x11_1).f4.f3),.int .i64 ((rd_T39 l0 x11_1).f5)],.int .i64 a1,.int .i64 a2] rfl (by (try simp only [List.map_toArray,List.map_cons,List.map_nil]); first | done | rfl | (simp only [List.length_drop,List.length_take]; rfl)) ?_; (with_reducible refine (decoupageref26_Shows.calls ((rd_T39 l0 x11_1).f0) ((rd_T39 l0 x11_1).f1) ((rd_T39 l0 x11_1).f2.f0) ((rd_T39 l0 x11_1).f2.f1) ((rd_T39 l0 x11_1).f2.f2) ((rd_T39 l0 x11_1).f2.f3) ((rd_T39 l0 x11_1).f3.f0) ((rd_T39 l0 x11_1).f3.f1) ((rd_T39 l0 x11_1).f3.f2) ((rd_T39 l0 x11_1).f3.f3) ((rd_T39 l0 x11_1).f4.f0) ((rd_T39 l0 x11_1).f4.f1) ((rd_T39 l0 x11_1).f4.f2) ((rd_T39 l0 x11_1).f4.f3) ((rd_T39 l0 x11_1).f5) a1 a2 false _ A7.out).mono ?_); rintro e w10 ⟨rfl,hb⟩; refine ⟨_,rfl,?_⟩; have n0_:=Aside0.mk (below_step (by repeat (first | (with_reducible first | exact HB.out | apply below_alloc | apply pw_below_drewN | apply below_drew1) | exact HB.out)) hb); clear HB; have HB:=n0_; clear n0_; (try clear hb); (try clear hb2); (try clear hk); (try clear hi)))
       go_roundg k1
       case measure => have:=HK1.out; omega
       case rel => exact ⟨(x7_1),(wrap64 (x11_1 + 1)),(by first | rfl | (simp; done) | (simp [*]; done)),(by first | rfl | (simp; done) | (simp [*]; done)),H',⟨by have:=HK1.out; omega⟩,⟨by repeat (first | (with_reducible first | exact HB.out | apply below_alloc | apply pw_below_drewN | apply below_drew1) | exact HB.out)⟩⟩
     ·rw [if_neg c6] at H
      exact absurd H (by simp)
    ·rw [if_neg c5] at H
     exact absurd H (by simp)
   ·rw [if_neg c4] at H
    have c4b0:decide (x11_1 < (l0.length:Int)) = false:=decide_eq_false c4
    clear c4
    obtain rfl:=Option.some.inj H
    go_wp2
    go_ret
    exact ⟨by first | rfl | (simp [errW_none,errW_some] <;> rfl) | (simp [*,errW_none,errW_some] <;> rfl),by repeat (first | (with_reducible first | exact HB.out | apply below_alloc | apply pw_below_drewN | apply below_drew1) | exact HB.out)⟩
def decoupageref26_Color.f (k:Nat) (l0:List (S39)) (a1:Int) (a2:Int):Option (Int):=(decoupageref26_Owner.f k l0 a1 a2).bind fun t281 => (if t281 < 0 then (some 0) else (if 0 ≤ t281 then (if t281 < (l0.length:Int) then (some ((rd_T39 l0 t281).f5)) else (none)) else (none)))
set_option maxHeartbeats 8000000 in
set_option maxRecDepth 100000 in
theorem decoupageref26_Color.calls (k:Nat) (A0:Option Addr) (c0:Nat) (l0:List (S39)) (a1:Int) (a2:Int) (r:Int) (w:World) (hr0:Kd.C k39 w A0 l0.length l0) (hc0:l0.length ≤ c0) (h:decoupageref26_Color.f k l0 a1 a2 = some r) :
  Calls Try.prog 23 #[.slice A0 l0.length c0,.int .i64 a1,.int .i64 a2] w fun e w' => e = .returned (.int .i64 r) ∧ Below w.heap.size w w':=by
 have HR0:=Aside0.mk hr0
 have HC0:=Aside0.mk hc0
 clear hr0 hc0
 have HB:=Aside0.mk (Below.refl w.heap.size w)
 have H:((decoupageref26_Owner.f k l0 a1 a2).bind fun t281 => (if t281 < 0 then (some 0) else (if 0 ≤ t281 then (if t281 < (l0.length:Int) then (some ((rd_T39 l0 t281).f5)) else (none)) else (none)))) = some r:=h
 clear h
 replace H:=Option.bind_eq_some_iff.mp H
 obtain ⟨t281,A40,H⟩:=H
 replace H:(if t281 < 0 then (some 0) else (if 0 ≤ t281 then (if t281 < (l0.length:Int) then (some ((rd_T39 l0 t281).f5)) else (none)) else (none))) = some r:=H
 have A4:=Aside0.mk A40
 clear A40
 by_cases c5:t281 < 0
 ·rw [if_pos c5] at H
  have c5b0:decide (t281 < 0) = true:=decide_eq_true c5
  clear c5
  obtain rfl:=Option.some.inj H
  go_enter Try.func23,Try.ntmps23
  go_wp2_with (first | ((with_reducible refine gate_callee (f:=22) rfl ?_); refine goesL_ (some 11) rfl rfl Try.func22 (by kernel_rfl) rfl #[.slice A0 l0.length c0,.int .i64 a1,.int .i64 a2] rfl (by (try simp only [List.map_toArray,List.map_cons,List.map_nil]); first | done | rfl | (simp only [List.length_drop,List.length_take]; rfl)) ?_; (with_reducible refine (decoupageref26_Owner.calls k _ _ l0 a1 a2 t281 _ ?side1 ?side2 A4.out).mono ?_); (case side1 => repeat (first | exact HR0.out | (with_reducible refine Kd.C_alloc ?_ _) | (with_reducible refine Kd.C_drewN ?_ _) | (with_reducible refine Kd.C_drew ?_))); (case side2 => exact HC0.out); rintro e w6 ⟨rfl,hb⟩; refine ⟨_,rfl,?_⟩; have n0_:=Aside0.mk (below_step (by repeat (first | (with_reducible first | exact HB.out | apply below_alloc | apply pw_below_drewN | apply below_drew1) | exact HB.out)) hb); clear HB; have HB:=n0_; clear n0_; (try clear hb); (try clear hb2); (try clear hk); (try clear hi)))
  go_ret
  exact ⟨by first | rfl | (simp [errW_none,errW_some] <;> rfl) | (simp [*,errW_none,errW_some] <;> rfl),by repeat (first | (with_reducible first | exact HB.out | apply below_alloc | apply pw_below_drewN | apply below_drew1) | exact HB.out)⟩
 ·rw [if_neg c5] at H
  have c5b0:decide (t281 < 0) = false:=decide_eq_false c5
  clear c5
  by_cases c7:0 ≤ t281
  ·rw [if_pos c7] at H
   have c7b0:decide (0 ≤ t281) = true:=decide_eq_true c7
   clear c7
   by_cases c8:t281 < (l0.length:Int)
   ·rw [if_pos c8] at H
    have c8b0:decide (t281 < (l0.length:Int)) = true:=decide_eq_true c8
    clear c8
    obtain rfl:=Option.some.inj H
    go_enter Try.func23,Try.ntmps23
    go_wp2_with (first | ((with_reducible refine gate_callee (f:=22) rfl ?_); refine goesL_ (some 11) rfl rfl Try.func22 (by kernel_rfl) rfl #[.slice A0 l0.length c0,.int .i64 a1,.int .i64 a2] rfl (by (try simp only [List.map_toArray,List.map_cons,List.map_nil]); first | done | rfl | (simp only [List.length_drop,List.length_take]; rfl)) ?_; (with_reducible refine (decoupageref26_Owner.calls k _ _ l0 a1 a2 t281 _ ?side1 ?side2 A4.out).mono ?_); (case side1 => repeat (first | exact HR0.out | (with_reducible refine Kd.C_alloc ?_ _) | (with_reducible refine Kd.C_drewN ?_ _) | (with_reducible refine Kd.C_drew ?_))); (case side2 => exact HC0.out); rintro e w9 ⟨rfl,hb⟩; refine ⟨_,rfl,?_⟩; have n0_:=Aside0.mk (below_step (by repeat (first | (with_reducible first | exact HB.out | apply below_alloc | apply pw_below_drewN | apply below_drew1) | exact HB.out)) hb); clear HB; have HB:=n0_; clear n0_; (try clear hb); (try clear hb2); (try clear hk); (try clear hi); have p282:0 ≤ (t281:Int):=of_decide_eq_true (by first | (with_reducible assumption) | assumption); have q282:t281 < (l0.length:Int):=of_decide_eq_true (by first | (with_reducible assumption) | assumption); obtain ⟨ad282,e282,hx282_0,hx282_1,hx282_2,hx282_3,hx282_4,hx282_5,hx282_6,hx282_7,hx282_8,hx282_9,hx282_10,hx282_11,hx282_12,hx282_13,hx282_14⟩:=at_T39 HR0.out t281 p282 q282; cases e282; replace hx282_0:=(HB.out.cell (World.block_lt_of_cell? w _ hx282_0)).trans hx282_0; replace hx282_1:=(HB.out.cell (World.block_lt_of_cell? w _ hx282_1)).trans hx282_1; replace hx282_2:=(HB.out.cell (World.block_lt_of_cell? w _ hx282_2)).trans hx282_2; replace hx282_3:=(HB.out.cell (World.block_lt_of_cell? w _ hx282_3)).trans hx282_3; replace hx282_4:=(HB.out.cell (World.block_lt_of_cell? w _ hx282_4)).trans hx282_4; replace hx282_5:=(HB.out.cell (World.block_lt_of_cell? w _ hx282_5)).trans hx282_5; replace hx282_6:=(HB.out.cell (World.block_lt_of_cell? w _ hx282_6)).trans hx282_6; replace hx282_7:=(HB.out.cell (World.block_lt_of_cell? w _ hx282_7)).trans hx282_7; replace hx282_8:=(HB.out.cell (World.block_lt_of_cell? w _ hx282_8)).trans hx282_8; replace hx282_9:=(HB.out.cell (World.block_lt_of_cell? w _ hx282_9)).trans hx282_9; replace hx282_10:=(HB.out.cell (World.block_lt_of_cell? w _ hx282_10)).trans hx282_10; replace hx282_11:=(HB.out.cell (World.block_lt_of_cell? w _ hx282_11)).trans hx282_11; replace hx282_12:=(HB.out.cell (World.block_lt_of_cell? w _ hx282_12)).trans hx282_12; replace hx282_13:=(HB.out.cell (World.block_lt_of_cell? w _ hx282_13)).trans hx282_13; replace hx282_14:=(HB.out.cell (World.block_lt_of_cell? w _ hx282_14)).trans hx282_14; replace p282:=eq_true p282; replace q282:=eq_true q282))
    go_ret
    exact ⟨by first | rfl | (simp [errW_none,errW_some] <;> rfl) | (simp [*,errW_none,errW_some] <;> rfl),by repeat (first | (with_reducible first | exact HB.out | apply below_alloc | apply pw_below_drewN | apply below_drew1) | exact HB.out)⟩
   ·rw [if_neg c8] at H
    exact absurd H (by simp)
  ·rw [if_neg c7] at H
   exact absurd H (by simp)
end Go.Proofs.Ytppklhfiajjhmaa.PPT
end
section
namespace Go.Proofs.Ytppklhfiajjhmaa.PPT
open Go.RowKit Go.Proofs.YtppklhfiajjhmaaW.PrintWords Go.Proofs.YtppklhfiajjhmaaW.PrintLast Go.Proofs.YtppklhfiajjhmaaW.PrintMore
attribute [local go_sem] max2_int min2_int max_two min_two max_three min_three max_four min_four   -- for this text's walks alone
set_option linter.unusedVariables false
set_option linter.unusedSimpArgs false
mutual
def decoupageref28_Draw.l0:Nat → List (S39) → List Int → Int → Int → Int → Int → Int → Int → Int → Option (List Int)
 | 0,_,_,_,_,_,_,_,_,_ => none
 | k + 1,x0,x5,x9,x10,x284000,x284001,x284002,x284003,x284004 => if x10 < x9 then (decoupageref28_Draw.l1 k x0 x5 x10 x9 x10 x284003 0 x284000 x284001 x284002 x284003 x284004) else (some x5)
def decoupageref28_Draw.l1:Nat → List (S39) → List Int → Int → Int → Int → Int → Int → Int → Int → Int → Int → Int → Option (List Int)
 | 0,_,_,_,_,_,_,_,_,_,_,_,_ => none
 | k + 1,x0,x5,x6,x9,x10,x14,x15,x284000,x284001,x284002,x284003,x284004 => if x15 < x14 then ((decoupageref26_Color.f k x0 (wrap64 (x284000 + (wrap64 (x15 * x284002)))) (wrap64 (x284001 + (wrap64 (x6 * x284002))))).bind fun t284 => (if x5.length < 17592186044416 then (decoupageref28_Draw.l1 k x0 (x5 ++ [t284]) x6 x9 x10 x14 (wrap64 (x15 + 1)) x284000 x284001 x284002 x284003 x284004) else (none))) else (decoupageref28_Draw.l0 k x0 x5 x9 (wrap64 (x10 + 1)) x284000 x284001 x284002 x284003 x284004)
end
def decoupageref28_Draw.f (k:Nat) (l0:List (S39)) (a1_0:Int) (a1_1:Int) (a1_2:Int) (a1_3:Int) (a1_4:Int):Option (List Int):=decoupageref28_Draw.l0 k l0 ([]:List Int) a1_4 0 a1_0 a1_1 a1_2 a1_3 a1_4
set_option maxHeartbeats 8000000 in
set_option maxRecDepth 100000 in
theorem decoupageref28_Draw.calls (k:Nat) (A0:Option Addr) (c0:Nat) (l0:List (S39)) (a1_0:Int) (a1_1:Int) (a1_2:Int) (a1_3:Int) (a1_4:Int) (r:List Int) (w:World) (hr0:Kd.C k39 w A0 l0.length l0) (hc0:l0.length ≤ c0) (h:decoupageref28_Draw.f k l0 a1_0 a1_1 a1_2 a1_3 a1_4 = some r) :
  Calls Try.prog 29 #[.slice A0 l0.length c0,.agg #[.int .i64 a1_0,.int .i64 a1_1,.int .i64 a1_2,.int .i64 a1_3,.int .i64 a1_4]] w fun e w' => ∃ v0_:Value,e = .returned (v0_) ∧ Kd.R (Kd.int .i64) 2 w' w.heap.size (fun _ => True) v0_ r ∧ Below w.heap.size w w':=by
 have hu46:=Try.underlying46
 have HR0:=Aside0.mk hr0
 have HC0:=Aside0.mk hc0
 clear hr0 hc0
 have HB:=Aside0.mk (Below.refl w.heap.size w)
 have H:(decoupageref28_Draw.l0 k l0 ([]:List Int) a1_4 0 a1_0 a1_1 a1_2 a1_3 a1_4) = some r:=h
 clear h
 have H':=Aside0.mk H
 clear H
 go_enter Try.func29,Try.ntmps29
 go_wp2_with (first | ((with_reducible refine gate_dst (N:=3) rfl ?_); refine box_event ?hg (N:=3) ?hd (cs:=#[.int .i64 a1_0,.int .i64 a1_1,.int .i64 a1_2,.int .i64 a1_3,.int .i64 a1_4]) (t:=46) ?hr ?_; (case hd => rfl); (case hg => rfl); (case hr => first | (go_simp; done) | (go_simp; rfl)); intro gb283 hg w3 hbox hb; have n0_:=Aside0.mk (below_step (by repeat (first | (with_reducible first | exact HB.out | apply below_alloc | apply pw_below_drewN | apply below_drew1) | exact HB.out)) hb); have n1_:=Aside0.mk (hbox); have n2_:=Aside0.mk ((by rw [hg]; exact (below_size (by repeat (first | (with_reducible first | exact HB.out | apply below_alloc | apply pw_below_drewN | apply below_drew1) | exact HB.out))):w.heap.size ≤ gb283)); have n3_:=Aside0.mk ((by rw [hg]; exact (below_size (by repeat (first | (with_reducible first | exact HB.out | apply below_alloc | apply pw_below_drewN | apply below_drew1) | exact HB.out))):w.heap.size ≤ gb283)); clear HB; have HB:=n0_; have BK283:=n1_; have GW283:=n2_; have GE283:=n3_; clear n0_ n1_ n2_ n3_; clear hb hbox hg; have hcz4_0:w3.cell? ⟨gb283,0,none⟩ = some (.int .i64 a1_0):=(blk_cell BK283.out 0).trans rfl; have hcz4_1:w3.cell? ⟨gb283,1,none⟩ = some (.int .i64 a1_1):=(blk_cell BK283.out 1).trans rfl; have hcz4_2:w3.cell? ⟨gb283,2,none⟩ = some (.int .i64 a1_2):=(blk_cell BK283.out 2).trans rfl; have hcz4_3:w3.cell? ⟨gb283,3,none⟩ = some (.int .i64 a1_3):=(blk_cell BK283.out 3).trans rfl; have hcz4_4:w3.cell? ⟨gb283,4,none⟩ = some (.int .i64 a1_4):=(blk_cell BK283.out 4).trans rfl; have hfz4_0:=blk_frozen BK283.out 0; have hfz4_1:=blk_frozen BK283.out 1; have hfz4_2:=blk_frozen BK283.out 2; have hfz4_3:=blk_frozen BK283.out 3; have hfz4_4:=blk_frozen BK283.out 4))
 go_loopg [5,10] k (fun kq v5 v10 w' => ∃ (x5_1:List Int) (x10_1:Int),v10 = .int .i64 x10_1 ∧ Aside0 (decoupageref28_Draw.l0 kq l0 x5_1 a1_4 x10_1 a1_0 a1_1 a1_2 a1_3 a1_4 = some r) ∧ Aside0 (kq ≤ k) ∧ Aside0 (Kd.R (Kd.int .i64) 2 w' w.heap.size (fun _ => True) v5 x5_1) ∧ Aside0 (w'.heap[gb283]? = some (.cells #[.int .i64 a1_0,.int .i64 a1_1,.int .i64 a1_2,.int .i64 a1_3,.int .i64 a1_4] 46 (0,0))) ∧ Aside0 (Below w.heap.size w w'))
 case atStart => exact ⟨(([]:List Int)),(0),(by first | rfl | (simp; done) | (simp [*]; done)),H',⟨Nat.le_refl _⟩,⟨by first | exact Kd.R_nil _ _ _ _ _ | exact Kd.N_nil _ _ _ _ _ | exact Kd.V_nil _ _ _ _ _ | exact Kd.Q_nil _ _ _ _ _ | exact Kd.S_nil _ _ _ _ _⟩,⟨by (with_reducible repeat (first | refine blk_drewN ?_ _ | refine blk_drew ?_ | refine blk_alloc ?_ _)); exact BK283.out⟩,⟨by repeat (first | (with_reducible first | exact HB.out | apply below_alloc | apply pw_below_drewN | apply below_drew1 | refine below_set ?_ GE283.out) | exact HB.out)⟩⟩
 case round =>
  clear H'
  try clear c2
  try clear p2
  try clear hcz4_0
  try clear hcz4_1
  try clear hcz4_2
  try clear hcz4_3
  try clear hcz4_4
  try clear hfz4_0
  try clear hfz4_1
  try clear hfz4_2
  try clear hfz4_3
  try clear hfz4_4
  obtain ⟨x5_1,x10_1,rfl,HA,HK1,HO_5,BK283,HB⟩:=hrel
  cases gk with
  | zero => exact absurd HA.out (by simp [decoupageref28_Draw.l0])
  | succ k1 =>
   have H:=HA.out
   clear HA
   simp only [decoupageref28_Draw.l0] at H
   by_cases c5:x10_1 < a1_4
   ·rw [if_pos c5] at H
    have c5b0:decide (x10_1 < a1_4) = true:=decide_eq_true c5
    clear c5
    have H':=Aside0.mk H
    clear H
    have hcz6_0:wr.cell? ⟨gb283,0,none⟩ = some (.int .i64 a1_0):=(blk_cell BK283.out 0).trans rfl
    have hcz6_1:wr.cell? ⟨gb283,1,none⟩ = some (.int .i64 a1_1):=(blk_cell BK283.out 1).trans rfl
    have hcz6_2:wr.cell? ⟨gb283,2,none⟩ = some (.int .i64 a1_2):=(blk_cell BK283.out 2).trans rfl
    have hcz6_3:wr.cell? ⟨gb283,3,none⟩ = some (.int .i64 a1_3):=(blk_cell BK283.out 3).trans rfl
    have hcz6_4:wr.cell? ⟨gb283,4,none⟩ = some (.int .i64 a1_4):=(blk_cell BK283.out 4).trans rfl
    have hfz6_0:=blk_frozen BK283.out 0
    have hfz6_1:=blk_frozen BK283.out 1
    have hfz6_2:=blk_frozen BK283.out 2
    have hfz6_3:=blk_frozen BK283.out 3
    have hfz6_4:=blk_frozen BK283.out 4
    go_wp2
    go_loopg [5,15] k1 (fun kq v5 v15 w' => ∃ (x5_2:List Int) (x15_2:Int),v15 = .int .i64 x15_2 ∧ Aside0 (decoupageref28_Draw.l1 kq l0 x5_2 x10_1 a1_4 x10_1 a1_3 x15_2 a1_0 a1_1 a1_2 a1_3 a1_4 = some r) ∧ Aside0 (kq ≤ k1) ∧ Aside0 (Kd.R (Kd.int .i64) 2 w' w.heap.size (fun _ => True) v5 x5_2) ∧ Aside0 (w'.heap[gb283]? = some (.cells #[.int .i64 a1_0,.int .i64 a1_1,.int .i64 a1_2,.int .i64 a1_3,.int .i64 a1_4] 46 (0,0))) ∧ Aside0 (Below w.heap.size w w'))
    case atStart => exact ⟨(x5_1),(0),(by first | rfl | (simp; done) | (simp [*]; done)),H',⟨Nat.le_refl _⟩,⟨by (with_reducible repeat (first | apply Kd.R_alloc | apply Kd.R_drewN | apply Kd.R_drew)); exact HO_5.out⟩,⟨by (with_reducible repeat (first | refine blk_drewN ?_ _ | refine blk_drew ?_ | refine blk_alloc ?_ _)); exact BK283.out⟩,⟨by repeat (first | (with_reducible first | exact HB.out | apply below_alloc | apply pw_below_drewN | apply below_drew1 | refine below_set ?_ GE283.out) | exact HB.out)⟩⟩
    case round =>
     clear H'
     try clear c2
     try clear p2
     try clear c5
     try clear c5b0
     try clear hcz4_0
     try clear hcz4_1
     try clear hcz4_2
     try clear hcz4_3
     try clear hcz4_4
     try clear hcz6_0
     try clear hcz6_1
     try clear hcz6_2
     try clear hcz6_3
     try clear hcz6_4
     try clear hfz4_0
     try clear hfz4_1
     try clear hfz4_2
     try clear hfz4_3
     try clear hfz4_4
     try clear hfz6_0
     try clear hfz6_1
     try clear hfz6_2
     try clear hfz6_3
     try clear hfz6_4
     try clear p2
     obtain ⟨x5_2,x15_2,rfl,HA,HK2,HO_5,BK283,HB⟩:=hrel
     cases gk with
     | zero => exact absurd HA.out (by simp [decoupageref28_Draw.l1])
     | succ k2 =>
      have H:=HA.out
      clear HA
      simp only [decoupageref28_Draw.l1] at H
      by_cases c7:x15_2 < a1_3
      ·rw [if_pos c7] at H
       have c7b0:decide (x15_2 < a1_3) = true:=decide_eq_true c7
       clear c7
       replace H:=Option.bind_eq_some_iff.mp H
       obtain ⟨t284,A80,H⟩:=H
       replace H:(if x5_2.length < 17592186044416 then (decoupageref28_Draw.l1 k2 l0 (x5_2 ++ [t284]) x10_1 a1_4 x10_1 a1_3 (wrap64 (x15_2 + 1)) a1_0 a1_1 a1_2 a1_3 a1_4) else (none)) = some r:=H
       have A8:=Aside0.mk A80
       clear A80
       by_cases c9:x5_2.length < 17592186044416
       ·rw [if_pos c9] at H
        have LMc9:=Aside0.mk c9
        clear c9
        obtain ⟨y285,hy285⟩:∃ y_:List Int,y_ = (x5_2 ++ [t284]):=⟨_,rfl⟩
        replace H:(decoupageref28_Draw.l1 k2 l0 y285 x10_1 a1_4 x10_1 a1_3 (wrap64 (x15_2 + 1)) a1_0 a1_1 a1_2 a1_3 a1_4) = some r:=by first | (rw [hy285]; with_reducible exact H) | (have H2_:=(Option.bind_some _ _).symm.trans H; rw [hy285]; with_reducible exact H2_) | (have H2_:=(Option.bind_some _ _).symm.trans H; with_reducible exact H2_) | with_reducible exact H | (rw [hy285]; exact H) | exact H
        have Ny285:=Aside0.mk hy285
        clear hy285
        have H':=Aside0.mk H
        clear H
        have hcz10_0:wr.cell? ⟨gb283,0,none⟩ = some (.int .i64 a1_0):=(blk_cell BK283.out 0).trans rfl
        have hcz10_1:wr.cell? ⟨gb283,1,none⟩ = some (.int .i64 a1_1):=(blk_cell BK283.out 1).trans rfl
        have hcz10_2:wr.cell? ⟨gb283,2,none⟩ = some (.int .i64 a1_2):=(blk_cell BK283.out 2).trans rfl
        have hcz10_3:wr.cell? ⟨gb283,3,none⟩ = some (.int .i64 a1_3):=(blk_cell BK283.out 3).trans rfl
        have hcz10_4:wr.cell? ⟨gb283,4,none⟩ = some (.int .i64 a1_4):=(blk_cell BK283.out 4).trans rfl
        have hfz10_0:=blk_frozen BK283.out 0
        have hfz10_1:=blk_frozen BK283.out 1
        have hfz10_2:=blk_frozen BK283.out 2
        have hfz10_3:=blk_frozen BK283.out 3
        have hfz10_4:=blk_frozen BK283.out 4
        go_wp2_with (first | ((with_reducible refine gate_callee (f:=23) rfl ?_); refine goesL_ (some 34) rfl rfl Try.func23 (by kernel_rfl) rfl #[.slice A0 l0.length c0,.int .i64 (wrap64 (a1_0 + (wrap64 (x15_2 * a1_2)))),.int .i64 (wrap64 (a1_1 + (wrap64 (x10_1 * a1_2))))] rfl (by (try simp only [List.map_toArray,List.map_cons,List.map_nil]); first | done | rfl | (simp only [List.length_drop,List.length_take]; rfl)) ?_; (with_reducible refine (decoupageref26_Color.calls k2 _ _ l0 (wrap64 (a1_0 + (wrap64 (x15_2 * a1_2)))) (wrap64 (a1_1 + (wrap64 (x10_1 * a1_2)))) t284 _ ?side1 ?side2 A8.out).mono ?_); (case side1 => repeat (first | exact (Kd.C_below HR0.out HB.out) | (with_reducible refine Kd.C_alloc ?_ _) | (with_reducible refine Kd.C_drewN ?_ _) | (with_reducible refine Kd.C_drew ?_))); (case side2 => exact HC0.out); rintro e w11 ⟨rfl,hb⟩; refine ⟨_,rfl,?_⟩; have n0_:=Aside0.mk (Kd.R_below (by (with_reducible repeat (first | apply Kd.R_alloc | apply Kd.R_drewN | apply Kd.R_drew)); exact HO_5.out) hb); have n1_:=Aside0.mk (blk_below (g:=gb283) (o:=.cells #[.int .i64 a1_0,.int .i64 a1_1,.int .i64 a1_2,.int .i64 a1_3,.int .i64 a1_4] 46 (0,0)) (by (with_reducible repeat (first | refine blk_drewN ?_ _ | refine blk_drew ?_ | refine blk_alloc ?_ _)); exact BK283.out) hb); have n2_:=Aside0.mk (below_step (by repeat (first | (with_reducible first | exact HB.out | apply below_alloc | apply pw_below_drewN | apply below_drew1 | refine below_set ?_ GE283.out) | exact HB.out)) hb); clear HO_5; clear BK283; clear HB; have HO_5:=n0_; have BK283:=n1_; have HB:=n2_; clear n0_ n1_ n2_; (try clear hb); (try clear hb2); (try clear hk); (try clear hi)) | ((with_reducible refine gate_builtin (b:=.append) (xs:=#[.tmp 18,.tmp 35]) rfl ?_); at_builtin; refine Kd.R_append (Kd.int .i64) (w0:=w) w.heap.size rfl (.tmp 18) (.tmp 35) 47 2 (.int .i64 0) 8 rfl Try.underlying47 info2 rfl (by decide) (by omega) u5 x5_2 t284 [.int .i64 t284] (fun _ => True) (fun _ => False) rfl rfl ?aP (fun _ hk => hk.elim) ?aF ?aO ?aB ?aS ?aL ?_; (case aP => exact rfl); (case aB => exact (by repeat (first | (with_reducible first | exact HB.out | apply below_alloc | apply pw_below_drewN | apply below_drew1 | refine below_set ?_ GE283.out) | exact HB.out))); (case aF => exact (fun _ _ => trivial)); (case aO => exact (by (with_reducible repeat (first | apply Kd.R_alloc | apply Kd.R_drewN | apply Kd.R_drew)); exact HO_5.out)); (case aS => exact (below_size (by repeat (first | (with_reducible first | exact HB.out | apply below_alloc | apply pw_below_drewN | apply below_drew1 | refine below_set ?_ GE283.out) | exact HB.out)))); (case aL => have:=LMc9.out; omega); intro v286 w12 ho hb hg hat; rw [← Ny285.out] at ho; have n0_:=Aside0.mk (blk_grown (g:=gb283) (o:=.cells #[.int .i64 a1_0,.int .i64 a1_1,.int .i64 a1_2,.int .i64 a1_3,.int .i64 a1_4] 46 (0,0)) (by (with_reducible repeat (first | refine blk_drewN ?_ _ | refine blk_drew ?_ | refine blk_alloc ?_ _)); exact BK283.out) hg (Kd.R_ne HO_5.out BK283.out (by decide))); have n1_:=Aside0.mk (hb); have n2_:=Aside0.mk (ho); clear BK283; clear HB; clear HO_5; have BK283:=n0_; have HB:=n1_; have HO287:=n2_; clear n0_ n1_ n2_; clear ho hb hg hat))
        go_roundg k2
        case measure => have:=HK1.out; have:=HK2.out; omega
        case rel => exact ⟨(y285),(wrap64 (x15_2 + 1)),(by first | rfl | (simp; done) | (simp [*]; done)),H',⟨by have:=HK1.out; have:=HK2.out; omega⟩,⟨by (with_reducible repeat (first | apply Kd.R_alloc | apply Kd.R_drewN | apply Kd.R_drew)); exact HO287.out⟩,⟨by (with_reducible repeat (first | refine blk_drewN ?_ _ | refine blk_drew ?_ | refine blk_alloc ?_ _)); exact BK283.out⟩,⟨by repeat (first | (with_reducible first | exact HB.out | apply below_alloc | apply pw_below_drewN | apply below_drew1 | refine below_set ?_ GE283.out) | exact HB.out)⟩⟩
       ·rw [if_neg c9] at H
        exact absurd H (by simp)
      ·rw [if_neg c7] at H
       have c7b0:decide (x15_2 < a1_3) = false:=decide_eq_false c7
       clear c7
       have H':=Aside0.mk H
       clear H
       go_wp2
       go_roundg k2
       case measure => have:=HK1.out; have:=HK2.out; omega
       case rel => exact ⟨(x5_2),(wrap64 (x10_1 + 1)),(by first | rfl | (simp; done) | (simp [*]; done)),H',⟨by have:=HK1.out; have:=HK2.out; omega⟩,⟨by (with_reducible repeat (first | apply Kd.R_alloc | apply Kd.R_drewN | apply Kd.R_drew)); exact HO_5.out⟩,⟨by (with_reducible repeat (first | refine blk_drewN ?_ _ | refine blk_drew ?_ | refine blk_alloc ?_ _)); exact BK283.out⟩,⟨by repeat (first | (with_reducible first | exact HB.out | apply below_alloc | apply pw_below_drewN | apply below_drew1 | refine below_set ?_ GE283.out) | exact HB.out)⟩⟩
   ·rw [if_neg c5] at H
    have c5b0:decide (x10_1 < a1_4) = false:=decide_eq_false c5
    clear c5
    obtain rfl:=Option.some.inj H
    go_wp2
    go_ret
    exact ⟨_,by first | rfl | (simp [errW_none,errW_some] <;> rfl) | (simp [*,errW_none,errW_some] <;> rfl),by (with_reducible repeat (first | apply Kd.R_alloc | apply Kd.R_drewN | apply Kd.R_drew)); exact HO_5.out,by repeat (first | (with_reducible first | exact HB.out | apply below_alloc | apply pw_below_drewN | apply below_drew1 | refine below_set ?_ GE283.out) | exact HB.out)⟩
def decoupagelaw34_same.l0:Nat → List Int → List Int → Int → Int → Option (Bool)
 | 0,_,_,_,_ => none
 | k + 1,x0,x1,x12,x13 => if x13 < x12 then (if 0 ≤ x13 then (if x13 < (x0.length:Int) then (if x13 < (x1.length:Int) then (if (rd x0 x13) = (rd x1 x13) then (decoupagelaw34_same.l0 k x0 x1 x12 (wrap64 (x13 + 1))) else (some false)) else (none)) else (none)) else (none)) else (some true)
def decoupagelaw34_same.f (k:Nat) (l0:List Int) (l1:List Int):Option (Bool):=if (l0.length:Int) = (l1.length:Int) then (decoupagelaw34_same.l0 k l0 l1 (l0.length:Int) 0) else (some false)
set_option maxHeartbeats 8000000 in
set_option maxRecDepth 100000 in
theorem decoupagelaw34_same.calls (k:Nat) (A0:Option Addr) (c0:Nat) (l0:List Int) (A1:Option Addr) (c1:Nat) (l1:List Int) (r:Bool) (w:World) (hr0:Kd.C (Kd.int .i64) w A0 l0.length l0) (hc0:l0.length ≤ c0) (hr1:Kd.C (Kd.int .i64) w A1 l1.length l1) (hc1:l1.length ≤ c1) (h:decoupagelaw34_same.f k l0 l1 = some r) :
  Calls Try.prog 37 #[.slice A0 l0.length c0,.slice A1 l1.length c1] w fun e w' => e = .returned (.bool r) ∧ Drawn0 w w':=by
 have HR0:=Aside0.mk hr0
 have HC0:=Aside0.mk hc0
 clear hr0 hc0
 have HR1:=Aside0.mk hr1
 have HC1:=Aside0.mk hc1
 clear hr1 hc1
 have H:(if (l0.length:Int) = (l1.length:Int) then (decoupagelaw34_same.l0 k l0 l1 (l0.length:Int) 0) else (some false)) = some r:=h
 clear h
 by_cases c3:(l0.length:Int) = (l1.length:Int)
 ·rw [if_pos c3] at H
  have c3b0:((l0.length:Int) == (l1.length:Int)) = true:=beq_iff_eq.mpr c3
  have c3b1:((l0.length:Int) != (l1.length:Int)) = false:=bne_eq_false_iff_eq.mpr c3
  have c3b2:(l0.length == l1.length) = true:=by first | simpa using c3 | (simp at c3 ⊢; omega)
  clear c3
  have H':=Aside0.mk H
  clear H
  go_enter Try.func37,Try.ntmps37
  go_wp2
  repeat (go_quiet (fail); try go_wp2)
  go_loopg [13] k (fun kq v13 w' => ∃ (x13_1:Int),v13 = .int .i64 x13_1 ∧ Aside0 (decoupagelaw34_same.l0 kq l0 l1 (l0.length:Int) x13_1 = some r) ∧ Aside0 (kq ≤ k) ∧ Drawn0 w w')
  case atStart => exact ⟨(0),(by first | rfl | (simp; done) | (simp [*]; done)),H',⟨Nat.le_refl _⟩,by repeat (first | exact Drawn0.refl _ | apply Drawn0.step)⟩
  case round =>
   clear H'
   try clear c1
   try clear p2
   try clear c3
   try clear c3b0
   try clear c3b1
   try clear c3b2
   obtain ⟨x13_1,rfl,HA,HK1,⟨m1,rfl⟩⟩:=hrel
   cases gk with
   | zero => exact absurd HA.out (by simp [decoupagelaw34_same.l0])
   | succ k1 =>
    have H:=HA.out
    clear HA
    simp only [decoupagelaw34_same.l0] at H
    by_cases c4:x13_1 < (l0.length:Int)
    ·rw [if_pos c4] at H
     have c4b0:decide (x13_1 < (l0.length:Int)) = true:=decide_eq_true c4
     clear c4
     by_cases c5:0 ≤ x13_1
     ·rw [if_pos c5] at H
      have c5b0:decide (0 ≤ x13_1) = true:=decide_eq_true c5
      clear c5
      by_cases c6:x13_1 < (l0.length:Int)
      ·rw [if_pos c6] at H
       have c6b0:decide (x13_1 < (l0.length:Int)) = true:=decide_eq_true c6
       clear c6
       by_cases c7:x13_1 < (l1.length:Int)
       ·rw [if_pos c7] at H
        have c7b0:decide (x13_1 < (l1.length:Int)) = true:=decide_eq_true c7
        clear c7
        by_cases c8:(rd l0 x13_1) = (rd l1 x13_1)
        ·rw [if_pos c8] at H
         have c8b0:((rd l0 x13_1) == (rd l1 x13_1)) = true:=beq_iff_eq.mpr c8
         have c8b1:((rd l0 x13_1) != (rd l1 x13_1)) = false:=bne_eq_false_iff_eq.mpr c8
         clear c8
         have H':=Aside0.mk H
         clear H
         have p288:0 ≤ (x13_1:Int):=of_decide_eq_true (by first | (with_reducible assumption) | assumption)
         have q288:x13_1 < (l0.length:Int):=of_decide_eq_true (by first | (with_reducible assumption) | assumption)
         obtain ⟨ad288,e288,hx288_0⟩:=Kd.at_int HR0.out x13_1 p288 q288
         cases e288
         replace p288:=eq_true p288
         replace q288:=eq_true q288
         have p289:0 ≤ (x13_1:Int):=of_decide_eq_true (by first | (with_reducible assumption) | assumption)
         have q289:x13_1 < (l1.length:Int):=of_decide_eq_true (by first | (with_reducible assumption) | assumption)
         obtain ⟨ad289,e289,hx289_0⟩:=Kd.at_int HR1.out x13_1 p289 q289
         cases e289
         replace p289:=eq_true p289
         replace q289:=eq_true q289
         go_wp2
         repeat (go_quiet (fail); try go_wp2)
         go_roundg k1
         case measure => have:=HK1.out; omega
         case rel => exact ⟨(wrap64 (x13_1 + 1)),(by first | rfl | (simp; done) | (simp [*]; done)),H',⟨by have:=HK1.out; omega⟩,by repeat (first | exact Drawn0.refl _ | apply Drawn0.step)⟩
        ·rw [if_neg c8] at H
         have c8b0:((rd l0 x13_1) == (rd l1 x13_1)) = false:=beq_eq_false_iff_ne.mpr c8
         have c8b1:((rd l0 x13_1) != (rd l1 x13_1)) = true:=bne_iff_ne.mpr c8
         obtain rfl:=Option.some.inj H
         have p288:0 ≤ (x13_1:Int):=of_decide_eq_true (by first | (with_reducible assumption) | assumption)
         have q288:x13_1 < (l0.length:Int):=of_decide_eq_true (by first | (with_reducible assumption) | assumption)
         obtain ⟨ad288,e288,hx288_0⟩:=Kd.at_int HR0.out x13_1 p288 q288
         cases e288
         replace p288:=eq_true p288
         replace q288:=eq_true q288
         have p289:0 ≤ (x13_1:Int):=of_decide_eq_true (by first | (with_reducible assumption) | assumption)
         have q289:x13_1 < (l1.length:Int):=of_decide_eq_true (by first | (with_reducible assumption) | assumption)
         obtain ⟨ad289,e289,hx289_0⟩:=Kd.at_int HR1.out x13_1 p289 q289
         cases e289
         replace p289:=eq_true p289
         replace q289:=eq_true q289
         go_wp2
         repeat (go_quiet (fail); try go_wp2)
         go_ret
         exact ⟨by first | rfl | (simp; done) | (simp [*]; done),by repeat (first | exact Drawn0.refl _ | apply Drawn0.step)⟩
       ·rw [if_neg c7] at H
        exact absurd H (by simp)
      ·rw [if_neg c6] at H
       exact absurd H (by simp)
     ·rw [if_neg c5] at H
      exact absurd H (by simp)
    ·rw [if_neg c4] at H
     have c4b0:decide (x13_1 < (l0.length:Int)) = false:=decide_eq_false c4
     clear c4
     obtain rfl:=Option.some.inj H
     go_wp2
     repeat (go_quiet (fail); try go_wp2)
     go_ret
     exact ⟨by first | rfl | (simp; done) | (simp [*]; done),by repeat (first | exact Drawn0.refl _ | apply Drawn0.step)⟩
 ·rw [if_neg c3] at H
  have c3b0:((l0.length:Int) == (l1.length:Int)) = false:=beq_eq_false_iff_ne.mpr c3
  have c3b1:((l0.length:Int) != (l1.length:Int)) = true:=bne_iff_ne.mpr c3
  have c3b2:(l0.length == l1.length) = false:=by first | simpa using c3 | (simp at c3 ⊢; omega)
  obtain rfl:=Option.some.inj H
  go_enter Try.func37,Try.ntmps37
  go_wp2
  repeat (go_quiet (fail); try go_wp2)
  go_ret
  exact ⟨by first | rfl | (simp; done) | (simp [*]; done),by repeat (first | exact Drawn0.refl _ | apply Drawn0.step)⟩
end Go.Proofs.Ytppklhfiajjhmaa.PPT
end
section
namespace Go.Proofs.Ytppklhfiajjhmaa.PPT
open Go.RowKit Go.Proofs.YtppklhfiajjhmaaW.PrintWords Go.Proofs.YtppklhfiajjhmaaW.PrintLast Go.Proofs.YtppklhfiajjhmaaW.PrintMore
attribute [local go_sem] max2_int min2_int max_two min_two max_three min_three max_four min_four   -- for this text's walks alone
set_option linter.unusedVariables false
set_option linter.unusedSimpArgs false
end Go.Proofs.Ytppklhfiajjhmaa.PPT
end
