/- What is proved: texts of the law TilesShow, joined by program. Conditions: none but those in each statement. -/
import Derived.Test.YtppklhfiajjhmaaZTilesShow11
import Derived.Test.YtppklhfiajjhmaaZTilesShow10
section
namespace Go.Proofs.Ytppklhfiajjhmaa.PPT
open Go.RowKit Go.Proofs.YtppklhfiajjhmaaW.PrintWords Go.Proofs.YtppklhfiajjhmaaW.PrintLast Go.Proofs.YtppklhfiajjhmaaW.PrintMore
attribute [local go_sem] max2_int min2_int max_two min_two max_three min_three max_four min_four   -- for this text's walks alone
set_option linter.unusedVariables false
set_option linter.unusedSimpArgs false
mutual
def raster_edges.l0:Nat → Int → Int → List Int → List (S39) → Int → Int → Option (List Int)
 | 0,_,_,_,_,_,_ => none
 | k + 1,x1,x2,x7,x15,x16,x17 => if x17 < x16 then (if 0 ≤ x17 then (if x17 < (x15.length:Int) then ((some (([(rd_T39 x15 x17).f2.f0,(rd_T39 x15 x17).f2.f2,(rd_T39 x15 x17).f4.f0,(rd_T39 x15 x17).f4.f2,(rd_T39 x15 x17).f3.f0,(rd_T39 x15 x17).f3.f2]:List Int):List Int)).bind fun y240 => (raster_edges.l1 k x1 x2 x7 x15 x16 x17 y240 (y240.length:Int) 0)) else (none)) else (none)) else (some x7)
def raster_edges.l1:Nat → Int → Int → List Int → List (S39) → Int → Int → List Int → Int → Int → Option (List Int)
 | 0,_,_,_,_,_,_,_,_,_ => none
 | k + 1,x1,x2,x7,x15,x16,x17,x39,x40,x41 => if x41 < x40 then (if 0 ≤ x41 then (if x41 < (x39.length:Int) then (if (rd x39 x41) > x1 then (if (rd x39 x41) < x2 then (if x7.length < 17592186044416 then (raster_edges.l1 k x1 x2 (x7 ++ [rd x39 x41]) x15 x16 x17 x39 x40 (wrap64 (x41 + 1))) else (none)) else (raster_edges.l1 k x1 x2 x7 x15 x16 x17 x39 x40 (wrap64 (x41 + 1)))) else (raster_edges.l1 k x1 x2 x7 x15 x16 x17 x39 x40 (wrap64 (x41 + 1)))) else (none)) else (none)) else (raster_edges.l0 k x1 x2 x7 x15 x16 (wrap64 (x17 + 1)))
end
def raster_edges.g (k:Nat) (l0:List (S39)) (a1:Int) (a2:Int):Option (List Int):=raster_edges.l0 k a1 a2 (([a1,a2]:List Int)) l0 (l0.length:Int) 0
def edg (s:List Int):List Int:=Lib.compact (s.mergeSort fun x y => decide (x ≤ y))
def places (x:S39):List Int:=[x.f2.f0,x.f2.f2,x.f4.f0,x.f4.f2,x.f3.f0,x.f3.f2]
def raster_edges.raw (l0:List S39) (a1 a2:Int):List Int:=[a1,a2] ++ l0.flatMap fun x => (places x).filter fun n => decide (a1 < n) && decide (n < a2)
def raster_edges.f (l0:List S39) (a1 a2:Int):Option (List Int):=if l0.length ≤ 1000 then some (edg (raster_edges.raw l0 a1 a2)) else none
set_option maxHeartbeats 8000000 in
set_option maxRecDepth 100000 in
theorem raster_edges.walk (k:Nat) (A0:Option Addr) (c0:Nat) (l0:List (S39)) (a1:Int) (a2:Int) (r:List Int) (w:World) (hr0:Kd.C k39 w A0 l0.length l0) (hc0:l0.length ≤ c0) (h:raster_edges.g k l0 a1 a2 = some r) (hne:r ≠ []) (hs:r.length < 4611686018427387904) :
  Calls Try.prog 50 #[.slice A0 l0.length c0,.int .i64 a1,.int .i64 a2] w fun e w' => ∃ v0_:Value,e = .returned (v0_) ∧ Kd.R (Kd.int .i64) 2 w' w.heap.size (fun _ => True) v0_ (edg r) ∧ Below w.heap.size w w':=by
 have hu39:=Try.underlying39
 have HR0:=Aside0.mk hr0
 have HC0:=Aside0.mk hc0
 clear hr0 hc0
 have HB:=Aside0.mk (Below.refl w.heap.size w)
 have H:(raster_edges.l0 k a1 a2 (([a1,a2]:List Int)) l0 (l0.length:Int) 0) = some r:=h
 clear h
 obtain ⟨y235,hy235⟩:∃ y_:List Int,y_ = (([a1,a2]:List Int)):=⟨_,rfl⟩
 replace H:(raster_edges.l0 k a1 a2 y235 l0 (l0.length:Int) 0) = some r:=by first | (rw [hy235]; with_reducible exact H) | (have H2_:=(Option.bind_some _ _).symm.trans H; rw [hy235]; with_reducible exact H2_) | (have H2_:=(Option.bind_some _ _).symm.trans H; with_reducible exact H2_) | with_reducible exact H | (rw [hy235]; exact H) | exact H
 have Ny235:=Aside0.mk hy235
 clear hy235
 have H':=Aside0.mk H
 clear H
 go_enter Try.func50,Try.ntmps50
 go_wp2_with (first | ((with_reducible refine gate_dst (N:=14) rfl ?_); refine Kd.R_lit (Kd.int .i64) _ 2 ?hg (N:=14) ?hd (xs:=([a1,a2]:List Int)) (inner:=[.int .i64 a1,.int .i64 a2]) (ok:=fun _ => True) (okp:=fun _ => True) ?hr ?hp (fun _ hk => hk) trivial (Below.refl _ _) (Nat.le_refl _) (by simp) ?_; (case hd => rfl); (case hg => rfl); (case hr => first | (go_simp; done) | (go_simp; rfl)); (case hp => exact (Reps.one (show Kd.M (Kd.int .i64) _ _ _ a1 [.int .i64 a1] from rfl) (Reps.one (show Kd.M (Kd.int .i64) _ _ _ a2 [.int .i64 a2] from rfl) (Reps.none _ _)))); intro v236 w4 ho5 hb hg_ hnew_; clear hg_ hnew_; (first | rw [← Ny235.out] at ho5 | (simp only [Int.reduceToNat] at ho5; rw [← Ny235.out] at ho5)); have n0_:=Aside0.mk (Kd.R_lower ho5 (below_size (by repeat (first | (with_reducible first | exact HB.out | apply below_alloc | apply pw_below_drewN | apply below_drew1) | exact HB.out)))); have n1_:=Aside0.mk (below_step (by repeat (first | (with_reducible first | exact HB.out | apply below_alloc | apply pw_below_drewN | apply below_drew1) | exact HB.out)) hb); clear HB; have HO237:=n0_; have HB:=n1_; clear n0_ n1_; clear hb ho5))
 go_loopg [7,17] k (fun kq v7 v17 w' => ∃ (x7_1:List Int) (x17_1:Int),v17 = .int .i64 x17_1 ∧ Aside0 (raster_edges.l0 kq a1 a2 x7_1 l0 (l0.length:Int) x17_1 = some r) ∧ Aside0 (kq ≤ k) ∧ Aside0 (Kd.R (Kd.int .i64) 2 w' w.heap.size (fun _ => True) v7 x7_1) ∧ Aside0 (Below w.heap.size w w'))
 case atStart => exact ⟨(y235),(0),(by first | rfl | (simp; done) | (simp [*]; done)),H',⟨Nat.le_refl _⟩,⟨by (with_reducible repeat (first | apply Kd.R_alloc | apply Kd.R_drewN | apply Kd.R_drew)); exact HO237.out⟩,⟨by repeat (first | (with_reducible first | exact HB.out | apply below_alloc | apply pw_below_drewN | apply below_drew1) | exact HB.out)⟩⟩
 case round =>
  clear H'
  try clear p2
  try clear c5
  obtain ⟨x7_1,x17_1,rfl,HA,HK1,HO_7,HB⟩:=hrel
  cases gk with
  | zero => exact absurd HA.out (by simp [raster_edges.l0])
  | succ k1 =>
   have H:=HA.out
   clear HA
   simp only [raster_edges.l0] at H
   by_cases c6:x17_1 < (l0.length:Int)
   ·rw [if_pos c6] at H
    have c6b0:decide (x17_1 < (l0.length:Int)) = true:=decide_eq_true c6
    clear c6
    by_cases c7:0 ≤ x17_1
    ·rw [if_pos c7] at H
     have c7b0:decide (0 ≤ x17_1) = true:=decide_eq_true c7
     clear c7
     by_cases c8:x17_1 < (l0.length:Int)
     ·rw [if_pos c8] at H
      have c8b0:decide (x17_1 < (l0.length:Int)) = true:=decide_eq_true c8
      clear c8
      obtain ⟨y240,hy240⟩:∃ y_:List Int,y_ = (([(rd_T39 l0 x17_1).f2.f0,(rd_T39 l0 x17_1).f2.f2,(rd_T39 l0 x17_1).f4.f0,(rd_T39 l0 x17_1).f4.f2,(rd_T39 l0 x17_1).f3.f0,(rd_T39 l0 x17_1).f3.f2]:List Int)):=⟨_,rfl⟩
      replace H:(raster_edges.l1 k1 a1 a2 x7_1 l0 (l0.length:Int) x17_1 y240 (y240.length:Int) 0) = some r:=by first | (rw [hy240]; with_reducible exact H) | (have H2_:=(Option.bind_some _ _).symm.trans H; rw [hy240]; with_reducible exact H2_) | (have H2_:=(Option.bind_some _ _).symm.trans H; with_reducible exact H2_) | with_reducible exact H | (rw [hy240]; exact H) | exact H
      have Ny240:=Aside0.mk hy240
      clear hy240
      have H':=Aside0.mk H
      clear H
      have p238:0 ≤ (x17_1:Int):=of_decide_eq_true (by first | (with_reducible assumption) | assumption)
      have q238:x17_1 < (l0.length:Int):=of_decide_eq_true (by first | (with_reducible assumption) | assumption)
      obtain ⟨ad238,e238,hx238_0,hx238_1,hx238_2,hx238_3,hx238_4,hx238_5,hx238_6,hx238_7,hx238_8,hx238_9,hx238_10,hx238_11,hx238_12,hx238_13,hx238_14⟩:=at_T39 HR0.out x17_1 p238 q238
      cases e238
      replace hx238_0:=(HB.out.cell (World.block_lt_of_cell? w _ hx238_0)).trans hx238_0
      replace hx238_1:=(HB.out.cell (World.block_lt_of_cell? w _ hx238_1)).trans hx238_1
      replace hx238_2:=(HB.out.cell (World.block_lt_of_cell? w _ hx238_2)).trans hx238_2
      replace hx238_3:=(HB.out.cell (World.block_lt_of_cell? w _ hx238_3)).trans hx238_3
      replace hx238_4:=(HB.out.cell (World.block_lt_of_cell? w _ hx238_4)).trans hx238_4
      replace hx238_5:=(HB.out.cell (World.block_lt_of_cell? w _ hx238_5)).trans hx238_5
      replace hx238_6:=(HB.out.cell (World.block_lt_of_cell? w _ hx238_6)).trans hx238_6
      replace hx238_7:=(HB.out.cell (World.block_lt_of_cell? w _ hx238_7)).trans hx238_7
      replace hx238_8:=(HB.out.cell (World.block_lt_of_cell? w _ hx238_8)).trans hx238_8
      replace hx238_9:=(HB.out.cell (World.block_lt_of_cell? w _ hx238_9)).trans hx238_9
      replace hx238_10:=(HB.out.cell (World.block_lt_of_cell? w _ hx238_10)).trans hx238_10
      replace hx238_11:=(HB.out.cell (World.block_lt_of_cell? w _ hx238_11)).trans hx238_11
      replace hx238_12:=(HB.out.cell (World.block_lt_of_cell? w _ hx238_12)).trans hx238_12
      replace hx238_13:=(HB.out.cell (World.block_lt_of_cell? w _ hx238_13)).trans hx238_13
      replace hx238_14:=(HB.out.cell (World.block_lt_of_cell? w _ hx238_14)).trans hx238_14
      replace p238:=eq_true p238
      replace q238:=eq_true q238
      go_wp2_with (first | ((with_reducible refine gate_dst (N:=9) rfl ?_); refine box_event ?hg (N:=9) ?hd (cs:=#[.int .i64 0,.int .i64 0,.int .i64 0,.int .i64 0,.int .i64 0,.int .i64 0,.int .i64 0,.int .i64 0,.int .i64 0,.int .i64 0,.int .i64 0,.int .i64 0,.int .i64 0,.int .i64 0,.int .i64 0]) (t:=39) ?hr ?_; (case hd => rfl); (case hg => rfl); (case hr => first | (go_simp; done) | (go_simp; rfl)); intro gb239 hg w9 hbox hb; have n0_:=Aside0.mk (Kd.R_below (by (with_reducible repeat (first | apply Kd.R_alloc | apply Kd.R_drewN | apply Kd.R_drew)); exact HO_7.out) hb); have n1_:=Aside0.mk (below_step (by repeat (first | (with_reducible first | exact HB.out | apply below_alloc | apply pw_below_drewN | apply below_drew1) | exact HB.out)) hb); have n2_:=Aside0.mk (hbox); have n3_:=Aside0.mk ((by rw [hg]; exact (below_size (by repeat (first | (with_reducible first | exact HB.out | apply below_alloc | apply pw_below_drewN | apply below_drew1) | exact HB.out))):w.heap.size ≤ gb239)); have n4_:=Aside0.mk ((by rw [hg]; exact (below_size (by repeat (first | (with_reducible first | exact HB.out | apply below_alloc | apply pw_below_drewN | apply below_drew1) | exact HB.out))):w.heap.size ≤ gb239)); clear HO_7; clear HB; have HO_7:=n0_; have HB:=n1_; have BK239:=n2_; have GW239:=n3_; have GE239:=n4_; clear n0_ n1_ n2_ n3_ n4_; clear hb hbox hg; have hcz10_0:w9.cell? ⟨gb239,0,none⟩ = some (.int .i64 0):=(blk_cell BK239.out 0).trans rfl; have hcz10_1:w9.cell? ⟨gb239,1,none⟩ = some (.int .i64 0):=(blk_cell BK239.out 1).trans rfl; have hcz10_2:w9.cell? ⟨gb239,2,none⟩ = some (.int .i64 0):=(blk_cell BK239.out 2).trans rfl; have hcz10_3:w9.cell? ⟨gb239,3,none⟩ = some (.int .i64 0):=(blk_cell BK239.out 3).trans rfl; have hcz10_4:w9.cell? ⟨gb239,4,none⟩ = some (.int .i64 0):=(blk_cell BK239.out 4).trans rfl; have hcz10_5:w9.cell? ⟨gb239,5,none⟩ = some (.int .i64 0):=(blk_cell BK239.out 5).trans rfl; have hcz10_6:w9.cell? ⟨gb239,6,none⟩ = some (.int .i64 0):=(blk_cell BK239.out 6).trans rfl; have hcz10_7:w9.cell? ⟨gb239,7,none⟩ = some (.int .i64 0):=(blk_cell BK239.out 7).trans rfl; have hcz10_8:w9.cell? ⟨gb239,8,none⟩ = some (.int .i64 0):=(blk_cell BK239.out 8).trans rfl; have hcz10_9:w9.cell? ⟨gb239,9,none⟩ = some (.int .i64 0):=(blk_cell BK239.out 9).trans rfl; have hcz10_10:w9.cell? ⟨gb239,10,none⟩ = some (.int .i64 0):=(blk_cell BK239.out 10).trans rfl; have hcz10_11:w9.cell? ⟨gb239,11,none⟩ = some (.int .i64 0):=(blk_cell BK239.out 11).trans rfl; have hcz10_12:w9.cell? ⟨gb239,12,none⟩ = some (.int .i64 0):=(blk_cell BK239.out 12).trans rfl; have hcz10_13:w9.cell? ⟨gb239,13,none⟩ = some (.int .i64 0):=(blk_cell BK239.out 13).trans rfl; have hcz10_14:w9.cell? ⟨gb239,14,none⟩ = some (.int .i64 0):=(blk_cell BK239.out 14).trans rfl; have hfz10_0:=blk_frozen BK239.out 0; have hfz10_1:=blk_frozen BK239.out 1; have hfz10_2:=blk_frozen BK239.out 2; have hfz10_3:=blk_frozen BK239.out 3; have hfz10_4:=blk_frozen BK239.out 4; have hfz10_5:=blk_frozen BK239.out 5; have hfz10_6:=blk_frozen BK239.out 6; have hfz10_7:=blk_frozen BK239.out 7; have hfz10_8:=blk_frozen BK239.out 8; have hfz10_9:=blk_frozen BK239.out 9; have hfz10_10:=blk_frozen BK239.out 10; have hfz10_11:=blk_frozen BK239.out 11; have hfz10_12:=blk_frozen BK239.out 12; have hfz10_13:=blk_frozen BK239.out 13; have hfz10_14:=blk_frozen BK239.out 14) | ((with_reducible refine gate_dst (N:=39) rfl ?_); refine Kd.R_lit (Kd.int .i64) _ 2 ?hg (N:=39) ?hd (xs:=([(rd_T39 l0 x17_1).f2.f0,(rd_T39 l0 x17_1).f2.f2,(rd_T39 l0 x17_1).f4.f0,(rd_T39 l0 x17_1).f4.f2,(rd_T39 l0 x17_1).f3.f0,(rd_T39 l0 x17_1).f3.f2]:List Int)) (inner:=[.int .i64 ((rd_T39 l0 x17_1).f2.f0),.int .i64 ((rd_T39 l0 x17_1).f2.f2),.int .i64 ((rd_T39 l0 x17_1).f4.f0),.int .i64 ((rd_T39 l0 x17_1).f4.f2),.int .i64 ((rd_T39 l0 x17_1).f3.f0),.int .i64 ((rd_T39 l0 x17_1).f3.f2)]) (ok:=fun _ => True) (okp:=fun _ => True) ?hr ?hp (fun _ hk => hk) trivial (Below.refl _ _) (Nat.le_refl _) (by simp) ?_; (case hd => rfl); (case hg => rfl); (case hr => first | (go_simp; done) | (go_simp; rfl)); (case hp => exact (Reps.one (show Kd.M (Kd.int .i64) _ _ _ ((rd_T39 l0 x17_1).f2.f0) [.int .i64 ((rd_T39 l0 x17_1).f2.f0)] from rfl) (Reps.one (show Kd.M (Kd.int .i64) _ _ _ ((rd_T39 l0 x17_1).f2.f2) [.int .i64 ((rd_T39 l0 x17_1).f2.f2)] from rfl) (Reps.one (show Kd.M (Kd.int .i64) _ _ _ ((rd_T39 l0 x17_1).f4.f0) [.int .i64 ((rd_T39 l0 x17_1).f4.f0)] from rfl) (Reps.one (show Kd.M (Kd.int .i64) _ _ _ ((rd_T39 l0 x17_1).f4.f2) [.int .i64 ((rd_T39 l0 x17_1).f4.f2)] from rfl) (Reps.one (show Kd.M (Kd.int .i64) _ _ _ ((rd_T39 l0 x17_1).f3.f0) [.int .i64 ((rd_T39 l0 x17_1).f3.f0)] from rfl) (Reps.one (show Kd.M (Kd.int .i64) _ _ _ ((rd_T39 l0 x17_1).f3.f2) [.int .i64 ((rd_T39 l0 x17_1).f3.f2)] from rfl) (Reps.none _ _)))))))); intro v241 w11 ho12 hb hg_ hnew_; clear hg_ hnew_; (first | rw [← Ny240.out] at ho12 | (simp only [Int.reduceToNat] at ho12; rw [← Ny240.out] at ho12)); have n0_:=Aside0.mk (Kd.R_elder' (by (with_reducible repeat (first | apply Kd.R_alloc | apply Kd.R_drewN | apply Kd.R_drew)); exact (Kd.R_mono (Kd.R_far (p:=⟨gb239,14,none⟩) (Kd.R_far (p:=⟨gb239,13,none⟩) (Kd.R_far (p:=⟨gb239,12,none⟩) (Kd.R_far (p:=⟨gb239,11,none⟩) (Kd.R_far (p:=⟨gb239,10,none⟩) (Kd.R_far (p:=⟨gb239,9,none⟩) (Kd.R_far (p:=⟨gb239,8,none⟩) (Kd.R_far (p:=⟨gb239,7,none⟩) (Kd.R_far (p:=⟨gb239,6,none⟩) (Kd.R_far (p:=⟨gb239,5,none⟩) (Kd.R_far (p:=⟨gb239,4,none⟩) (Kd.R_far (p:=⟨gb239,3,none⟩) (Kd.R_far (p:=⟨gb239,2,none⟩) (Kd.R_far (p:=⟨gb239,1,none⟩) (Kd.R_far (p:=⟨gb239,0,none⟩) (Kd.R_types HO_7.out BK239.out (by decide)) (fun _ hk => hk.2) (.int .i64 ((rd_T39 l0 x17_1).f0))) (fun _ hk => hk.2) (.int .i64 ((rd_T39 l0 x17_1).f1))) (fun _ hk => hk.2) (.int .i64 ((rd_T39 l0 x17_1).f2.f0))) (fun _ hk => hk.2) (.int .i64 ((rd_T39 l0 x17_1).f2.f1))) (fun _ hk => hk.2) (.int .i64 ((rd_T39 l0 x17_1).f2.f2))) (fun _ hk => hk.2) (.int .i64 ((rd_T39 l0 x17_1).f2.f3))) (fun _ hk => hk.2) (.int .i64 ((rd_T39 l0 x17_1).f3.f0))) (fun _ hk => hk.2) (.int .i64 ((rd_T39 l0 x17_1).f3.f1))) (fun _ hk => hk.2) (.int .i64 ((rd_T39 l0 x17_1).f3.f2))) (fun _ hk => hk.2) (.int .i64 ((rd_T39 l0 x17_1).f3.f3))) (fun _ hk => hk.2) (.int .i64 ((rd_T39 l0 x17_1).f4.f0))) (fun _ hk => hk.2) (.int .i64 ((rd_T39 l0 x17_1).f4.f1))) (fun _ hk => hk.2) (.int .i64 ((rd_T39 l0 x17_1).f4.f2))) (fun _ hk => hk.2) (.int .i64 ((rd_T39 l0 x17_1).f4.f3))) (fun _ hk => hk.2) (.int .i64 ((rd_T39 l0 x17_1).f5))) (fun _ h_ => h_.1))) (Kd.R_base ho12) hb); have n1_:=Aside0.mk (Kd.R_lower (Kd.R_new' ho12 (Kd.R_lt (by (with_reducible repeat (first | apply Kd.R_alloc | apply Kd.R_drewN | apply Kd.R_drew)); exact (Kd.R_mono (Kd.R_far (p:=⟨gb239,14,none⟩) (Kd.R_far (p:=⟨gb239,13,none⟩) (Kd.R_far (p:=⟨gb239,12,none⟩) (Kd.R_far (p:=⟨gb239,11,none⟩) (Kd.R_far (p:=⟨gb239,10,none⟩) (Kd.R_far (p:=⟨gb239,9,none⟩) (Kd.R_far (p:=⟨gb239,8,none⟩) (Kd.R_far (p:=⟨gb239,7,none⟩) (Kd.R_far (p:=⟨gb239,6,none⟩) (Kd.R_far (p:=⟨gb239,5,none⟩) (Kd.R_far (p:=⟨gb239,4,none⟩) (Kd.R_far (p:=⟨gb239,3,none⟩) (Kd.R_far (p:=⟨gb239,2,none⟩) (Kd.R_far (p:=⟨gb239,1,none⟩) (Kd.R_far (p:=⟨gb239,0,none⟩) (Kd.R_types HO_7.out BK239.out (by decide)) (fun _ hk => hk.2) (.int .i64 ((rd_T39 l0 x17_1).f0))) (fun _ hk => hk.2) (.int .i64 ((rd_T39 l0 x17_1).f1))) (fun _ hk => hk.2) (.int .i64 ((rd_T39 l0 x17_1).f2.f0))) (fun _ hk => hk.2) (.int .i64 ((rd_T39 l0 x17_1).f2.f1))) (fun _ hk => hk.2) (.int .i64 ((rd_T39 l0 x17_1).f2.f2))) (fun _ hk => hk.2) (.int .i64 ((rd_T39 l0 x17_1).f2.f3))) (fun _ hk => hk.2) (.int .i64 ((rd_T39 l0 x17_1).f3.f0))) (fun _ hk => hk.2) (.int .i64 ((rd_T39 l0 x17_1).f3.f1))) (fun _ hk => hk.2) (.int .i64 ((rd_T39 l0 x17_1).f3.f2))) (fun _ hk => hk.2) (.int .i64 ((rd_T39 l0 x17_1).f3.f3))) (fun _ hk => hk.2) (.int .i64 ((rd_T39 l0 x17_1).f4.f0))) (fun _ hk => hk.2) (.int .i64 ((rd_T39 l0 x17_1).f4.f1))) (fun _ hk => hk.2) (.int .i64 ((rd_T39 l0 x17_1).f4.f2))) (fun _ hk => hk.2) (.int .i64 ((rd_T39 l0 x17_1).f4.f3))) (fun _ hk => hk.2) (.int .i64 ((rd_T39 l0 x17_1).f5))) (fun _ h_ => h_.1))))) (below_size (by repeat (first | (with_reducible first | exact HB.out | apply below_alloc | apply pw_below_drewN | apply below_drew1 | refine below_set ?_ GE239.out) | exact HB.out)))); have n2_:=Aside0.mk (blk_below (g:=gb239) (o:=.cells #[.int .i64 ((rd_T39 l0 x17_1).f0),.int .i64 ((rd_T39 l0 x17_1).f1),.int .i64 ((rd_T39 l0 x17_1).f2.f0),.int .i64 ((rd_T39 l0 x17_1).f2.f1),.int .i64 ((rd_T39 l0 x17_1).f2.f2),.int .i64 ((rd_T39 l0 x17_1).f2.f3),.int .i64 ((rd_T39 l0 x17_1).f3.f0),.int .i64 ((rd_T39 l0 x17_1).f3.f1),.int .i64 ((rd_T39 l0 x17_1).f3.f2),.int .i64 ((rd_T39 l0 x17_1).f3.f3),.int .i64 ((rd_T39 l0 x17_1).f4.f0),.int .i64 ((rd_T39 l0 x17_1).f4.f1),.int .i64 ((rd_T39 l0 x17_1).f4.f2),.int .i64 ((rd_T39 l0 x17_1).f4.f3),.int .i64 ((rd_T39 l0 x17_1).f5)] 39 (0,0)) (by (with_reducible repeat (first | refine blk_drewN ?_ _ | refine blk_drew ?_ | refine blk_alloc ?_ _)); refine blk_put (cs:=#[.int .i64 ((rd_T39 l0 x17_1).f0),.int .i64 ((rd_T39 l0 x17_1).f1),.int .i64 ((rd_T39 l0 x17_1).f2.f0),.int .i64 ((rd_T39 l0 x17_1).f2.f1),.int .i64 ((rd_T39 l0 x17_1).f2.f2),.int .i64 ((rd_T39 l0 x17_1).f2.f3),.int .i64 ((rd_T39 l0 x17_1).f3.f0),.int .i64 ((rd_T39 l0 x17_1).f3.f1),.int .i64 ((rd_T39 l0 x17_1).f3.f2),.int .i64 ((rd_T39 l0 x17_1).f3.f3),.int .i64 ((rd_T39 l0 x17_1).f4.f0),.int .i64 ((rd_T39 l0 x17_1).f4.f1),.int .i64 ((rd_T39 l0 x17_1).f4.f2),.int .i64 ((rd_T39 l0 x17_1).f4.f3),.int .i64 0]) ?_ 14 _ rfl; (with_reducible repeat (first | refine blk_drewN ?_ _ | refine blk_drew ?_ | refine blk_alloc ?_ _)); refine blk_put (cs:=#[.int .i64 ((rd_T39 l0 x17_1).f0),.int .i64 ((rd_T39 l0 x17_1).f1),.int .i64 ((rd_T39 l0 x17_1).f2.f0),.int .i64 ((rd_T39 l0 x17_1).f2.f1),.int .i64 ((rd_T39 l0 x17_1).f2.f2),.int .i64 ((rd_T39 l0 x17_1).f2.f3),.int .i64 ((rd_T39 l0 x17_1).f3.f0),.int .i64 ((rd_T39 l0 x17_1).f3.f1),.int .i64 ((rd_T39 l0 x17_1).f3.f2),.int .i64 ((rd_T39 l0 x17_1).f3.f3),.int .i64 ((rd_T39 l0 x17_1).f4.f0),.int .i64 ((rd_T39 l0 x17_1).f4.f1),.int .i64 ((rd_T39 l0 x17_1).f4.f2),.int .i64 0,.int .i64 0]) ?_ 13 _ rfl; (with_reducible repeat (first | refine blk_drewN ?_ _ | refine blk_drew ?_ | refine blk_alloc ?_ _)); refine blk_put (cs:=#[.int .i64 ((rd_T39 l0 x17_1).f0),.int .i64 ((rd_T39 l0 x17_1).f1),.int .i64 ((rd_T39 l0 x17_1).f2.f0),.int .i64 ((rd_T39 l0 x17_1).f2.f1),.int .i64 ((rd_T39 l0 x17_1).f2.f2),.int .i64 ((rd_T39 l0 x17_1).f2.f3),.int .i64 ((rd_T39 l0 x17_1).f3.f0),.int .i64 ((rd_T39 l0 x17_1).f3.f1),.int .i64 ((rd_T39 l0 x17_1).f3.f2),.int .i64 ((rd_T39 l0 x17_1).f3.f3),.int .i64 ((rd_T39 l0 x17_1).f4.f0),.int .i64 ((rd_T39 l0 x17_1).f4.f1),.int .i64 0,.int .i64 0,.int .i64 0]) ?_ 12 _ rfl; (with_reducible repeat (first | refine blk_drewN ?_ _ | refine blk_drew ?_ | refine blk_alloc ?_ _)); refine blk_put (cs:=#[.int .i64 ((rd_T39 l0 x17_1).f0),.int .i64 ((rd_T39 l0 x17_1).f1),.int .i64 ((rd_T39 l0 x17_1).f2.f0),.int .i64 ((rd_T39 l0 x17_1).f2.f1),.int .i64 ((rd_T39 l0 x17_1).f2.f2),.int .i64 ((rd_T39 l0 x17_1).f2.f3),.int .i64 ((rd_T39 l0 x17_1).f3.f0),.int .i64 ((rd_T39 l0 x17_1).f3.f1),.int .i64 ((rd_T39 l0 x17_1).f3.f2),.int .i64 ((rd_T39 l0 x17_1).f3.f3),.int .i64 ((rd_T39 l0 x17_1).f4.f0),.int .i64 0,.int .i64 0,.int .i64 0,.int .i64 0]) ?_ 11 _ rfl; (with_reducible repeat (first | refine blk_drewN ?_ _ | refine blk_drew ?_ | refine blk_alloc ?_ _)); refine blk_put (cs:=#[.int .i64 ((rd_T39 l0 x17_1).f0),.int .i64 ((rd_T39 l0 x17_1).f1),.int .i64 ((rd_T39 l0 x17_1).f2.f0),.int .i64 ((rd_T39 l0 x17_1).f2.f1),.int .i64 ((rd_T39 l0 x17_1).f2.f2),.int .i64 ((rd_T39 l0 x17_1).f2.f3),.int .i64 ((rd_T39 l0 x17_1).f3.f0),.int .i64 ((rd_T39 l0 x17_1).f3.f1),.int .i64 ((rd_T39 l0 x17_1).f3.f2),.int .i64 ((rd_T39 l0 x17_1).f3.f3),.int .i64 0,.int .i64 0,.int .i64 0,.int .i64 0,.int .i64 0]) ?_ 10 _ rfl; (with_reducible repeat (first | refine blk_drewN ?_ _ | refine blk_drew ?_ | refine blk_alloc ?_ _)); refine blk_put (cs:=#[.int .i64 ((rd_T39 l0 x17_1).f0),.int .i64 ((rd_T39 l0 x17_1).f1),.int .i64 ((rd_T39 l0 x17_1).f2.f0),.int .i64 ((rd_T39 l0 x17_1).f2.f1),.int .i64 ((rd_T39 l0 x17_1).f2.f2),.int .i64 ((rd_T39 l0 x17_1).f2.f3),.int .i64 ((rd_T39 l0 x17_1).f3.f0),.int .i64 ((rd_T39 l0 x17_1).f3.f1),.int .i64 ((rd_T39 l0 x17_1).f3.f2),.int .i64 0,.int .i64 0,.int .i64 0,.int .i64 0,.int .i64 0,.int .i64 0]) ?_ 9 _ rfl; (with_reducible repeat (first | refine blk_drewN ?_ _ | refine blk_drew ?_ | refine blk_alloc ?_ _)); refine blk_put (cs:=#[.int .i64 ((rd_T39 l0 x17_1).f0),.int .i64 ((rd_T39 l0 x17_1).f1),.int .i64 ((rd_T39 l0 x17_1).f2.f0),.int .i64 ((rd_T39 l0 x17_1).f2.f1),.int .i64 ((rd_T39 l0 x17_1).f2.f2),.int .i64 ((rd_T39 l0 x17_1).f2.f3),.int .i64 ((rd_T39 l0 x17_1).f3.f0),.int .i64 ((rd_T39 l0 x17_1).f3.f1),.int .i64 0,.int .i64 0,.int .i64 0,.int .i64 0,.int .i64 0,.int .i64 0,.int .i64 0]) ?_ 8 _ rfl; (with_reducible repeat (first | refine blk_drewN ?_ _ | refine blk_drew ?_ | refine blk_alloc ?_ _)); refine blk_put (cs:=#[.int .i64 ((rd_T39 l0 x17_1).f0),.int .i64 ((rd_T39 l0 x17_1).f1),.int .i64 ((rd_T39 l0 x17_1).f2.f0),.int .i64 ((rd_T39 l0 x17_1).f2.f1),.int .i64 ((rd_T39 l0 x17_1).f2.f2),.int .i64 ((rd_T39 l0 x17_1).f2.f3),.int .i64 ((rd_T39 l0 x17_1).f3.f0),.int .i64 0,.int .i64 0,.int .i64 0,.int .i64 0,.int .i64 0,.int .i64 0,.int .i64 0,.int .i64 0]) ?_ 7 _ rfl; (with_reducible repeat (first | refine blk_drewN ?_ _ | refine blk_drew ?_ | refine blk_alloc ?_ _)); refine blk_put (cs:=#[.int .i64 ((rd_T39 l0 x17_1).f0),.int .i64 ((rd_T39 l0 x17_1).f1),.int .i64 ((rd_T39 l0 x17_1).f2.f0),.int .i64 ((rd_T39 l0 x17_1).f2.f1),.int .i64 ((rd_T39 l0 x17_1).f2.f2),.int .i64 ((rd_T39 l0 x17_1).f2.f3),.int .i64 0,.int .i64 0,.int .i64 0,.int .i64 0,.int .i64 0,.int .i64 0,.int .i64 0,.int .i64 0,.int .i64 0]) ?_ 6 _ rfl; (with_reducible repeat (first | refine blk_drewN ?_ _ | refine blk_drew ?_ | refine blk_alloc ?_ _)); refine blk_put (cs:=#[.int .i64 ((rd_T39 l0 x17_1).f0),.int .i64 ((rd_T39 l0 x17_1).f1),.int .i64 ((rd_T39 l0 x17_1).f2.f0),.int .i64 ((rd_T39 l0 x17_1).f2.f1),.int .i64 ((rd_T39 l0 x17_1).f2.f2),.int .i64 0,.int .i64 0,.int .i64 0,.int .i64 0,.int .i64 0,.int .i64 0,.int .i64 0,.int .i64 0,.int .i64 0,.int .i64 0]) ?_ 5 _ rfl; (with_reducible repeat (first | refine blk_drewN ?_ _ | refine blk_drew ?_ | refine blk_alloc ?_ _)); refine blk_put (cs:=#[.int .i64 ((rd_T39 l0 x17_1).f0),.int .i64 ((rd_T39 l0 x17_1).f1),.int .i64 ((rd_T39 l0 x17_1).f2.f0),.int .i64 ((rd_T39 l0 x17_1).f2.f1),.int .i64 0,.int .i64 0,.int .i64 0,.int .i64 0,.int .i64 0,.int .i64 0,.int .i64 0,.int .i64 0,.int .i64 0,.int .i64 0,.int .i64 0]) ?_ 4 _ rfl; (with_reducible repeat (first | refine blk_drewN ?_ _ | refine blk_drew ?_ | refine blk_alloc ?_ _)); refine blk_put (cs:=#[.int .i64 ((rd_T39 l0 x17_1).f0),.int .i64 ((rd_T39 l0 x17_1).f1),.int .i64 ((rd_T39 l0 x17_1).f2.f0),.int .i64 0,.int .i64 0,.int .i64 0,.int .i64 0,.int .i64 0,.int .i64 0,.int .i64 0,.int .i64 0,.int .i64 0,.int .i64 0,.int .i64 0,.int .i64 0]) ?_ 3 _ rfl; (with_reducible repeat (first | refine blk_drewN ?_ _ | refine blk_drew ?_ | refine blk_alloc ?_ _)); refine blk_put (cs:=#[.int .i64 ((rd_T39 l0 x17_1).f0),.int .i64 ((rd_T39 l0 x17_1).f1),.int .i64 0,.int .i64 0,.int .i64 0,.int .i64 0,.int .i64 0,.int .i64 0,.int .i64 0,.int .i64 0,.int .i64 0,.int .i64 0,.int .i64 0,.int .i64 0,.int .i64 0]) ?_ 2 _ rfl; (with_reducible repeat (first | refine blk_drewN ?_ _ | refine blk_drew ?_ | refine blk_alloc ?_ _)); refine blk_put (cs:=#[.int .i64 ((rd_T39 l0 x17_1).f0),.int .i64 0,.int .i64 0,.int .i64 0,.int .i64 0,.int .i64 0,.int .i64 0,.int .i64 0,.int .i64 0,.int .i64 0,.int .i64 0,.int .i64 0,.int .i64 0,.int .i64 0,.int .i64 0]) ?_ 1 _ rfl; (with_reducible repeat (first | refine blk_drewN ?_ _ | refine blk_drew ?_ | refine blk_alloc ?_ _)); refine blk_put (cs:=#[.int .i64 0,.int .i64 0,.int .i64 0,.int .i64 0,.int .i64 0,.int .i64 0,.int .i64 0,.int .i64 0,.int .i64 0,.int .i64 0,.int .i64 0,.int .i64 0,.int .i64 0,.int .i64 0,.int .i64 0]) ?_ 0 _ rfl; (with_reducible repeat (first | refine blk_drewN ?_ _ | refine blk_drew ?_ | refine blk_alloc ?_ _)); exact BK239.out) hb); have n3_:=Aside0.mk (below_step (by repeat (first | (with_reducible first | exact HB.out | apply below_alloc | apply pw_below_drewN | apply below_drew1 | refine below_set ?_ GE239.out) | exact HB.out)) hb); clear HO_7; clear BK239; clear HB; have HO_7:=n0_; have HO242:=n1_; have BK239:=n2_; have HB:=n3_; clear n0_ n1_ n2_ n3_; clear hb ho12; obtain ⟨Ao13,co13,eo13⟩:=Kd.R_slice HO242.out; subst eo13))
      go_loopg [7,41] k1 (fun kq v7 v41 w' => ∃ (x7_2:List Int) (x41_2:Int),v41 = .int .i64 x41_2 ∧ Aside0 (raster_edges.l1 kq a1 a2 x7_2 l0 (l0.length:Int) x17_1 y240 (y240.length:Int) x41_2 = some r) ∧ Aside0 (kq ≤ k1) ∧ Aside0 (Kd.R (Kd.int .i64) 2 w' w.heap.size (fun k_ => some k_ ≠ ((.slice Ao13 y240.length co13):Value).ownBlock) v7 x7_2) ∧ Aside0 (Kd.R (Kd.int .i64) 2 w' w.heap.size (fun k_ => some k_ ≠ (v7:Value).ownBlock) (.slice Ao13 y240.length co13) y240) ∧ Aside0 (w'.heap[gb239]? = some (.cells #[.int .i64 ((rd_T39 l0 x17_1).f0),.int .i64 ((rd_T39 l0 x17_1).f1),.int .i64 ((rd_T39 l0 x17_1).f2.f0),.int .i64 ((rd_T39 l0 x17_1).f2.f1),.int .i64 ((rd_T39 l0 x17_1).f2.f2),.int .i64 ((rd_T39 l0 x17_1).f2.f3),.int .i64 ((rd_T39 l0 x17_1).f3.f0),.int .i64 ((rd_T39 l0 x17_1).f3.f1),.int .i64 ((rd_T39 l0 x17_1).f3.f2),.int .i64 ((rd_T39 l0 x17_1).f3.f3),.int .i64 ((rd_T39 l0 x17_1).f4.f0),.int .i64 ((rd_T39 l0 x17_1).f4.f1),.int .i64 ((rd_T39 l0 x17_1).f4.f2),.int .i64 ((rd_T39 l0 x17_1).f4.f3),.int .i64 ((rd_T39 l0 x17_1).f5)] 39 (0,0))) ∧ Aside0 (Below w.heap.size w w'))
      case atStart => exact ⟨(x7_1),(0),(by first | rfl | (simp; done) | (simp [*]; done)),H',⟨Nat.le_refl _⟩,⟨by (with_reducible repeat (first | apply Kd.R_alloc | apply Kd.R_drewN | apply Kd.R_drew)); exact Kd.R_mono HO_7.out (fun _ hk => hk.2)⟩,⟨by (with_reducible repeat (first | apply Kd.R_alloc | apply Kd.R_drewN | apply Kd.R_drew)); exact Kd.R_mono HO242.out (fun _ hk => hk.2)⟩,⟨by (with_reducible repeat (first | refine blk_drewN ?_ _ | refine blk_drew ?_ | refine blk_alloc ?_ _)); exact BK239.out⟩,⟨by repeat (first | (with_reducible first | exact HB.out | apply below_alloc | apply pw_below_drewN | apply below_drew1 | refine below_set ?_ GE239.out) | exact HB.out)⟩⟩
      case round =>
       clear H'
       try clear p2
       try clear q2
       try clear hx2
       try clear c5
       try clear c6
       try clear c6b0
       try clear c7
       try clear c7b0
       try clear c8
       try clear c8b0
       try clear hcz10_0
       try clear hcz10_1
       try clear hcz10_10
       try clear hcz10_11
       try clear hcz10_12
       try clear hcz10_13
       try clear hcz10_14
       try clear hcz10_2
       try clear hcz10_3
       try clear hcz10_4
       try clear hcz10_5
       try clear hcz10_6
       try clear hcz10_7
       try clear hcz10_8
       try clear hcz10_9
       try clear hfz10_0
       try clear hfz10_1
       try clear hfz10_10
       try clear hfz10_11
       try clear hfz10_12
       try clear hfz10_13
       try clear hfz10_14
       try clear hfz10_2
       try clear hfz10_3
       try clear hfz10_4
       try clear hfz10_5
       try clear hfz10_6
       try clear hfz10_7
       try clear hfz10_8
       try clear hfz10_9
       try clear hx238_0
       try clear hx238_1
       try clear hx238_10
       try clear hx238_11
       try clear hx238_12
       try clear hx238_13
       try clear hx238_14
       try clear hx238_2
       try clear hx238_3
       try clear hx238_4
       try clear hx238_5
       try clear hx238_6
       try clear hx238_7
       try clear hx238_8
       try clear hx238_9
       try clear p2
       try clear p238
       try clear q238
       obtain ⟨x7_2,x41_2,rfl,HA,HK2,HO_7,HO_39,BK239,HB⟩:=hrel
       cases gk with
       | zero => exact absurd HA.out (by simp [raster_edges.l1])
       | succ k2 =>
        have H:=HA.out
        clear HA
        simp only [raster_edges.l1] at H
        by_cases c14:x41_2 < (y240.length:Int)
        ·rw [if_pos c14] at H
         have c14b0:decide (x41_2 < (y240.length:Int)) = true:=decide_eq_true c14
         clear c14
         by_cases c15:0 ≤ x41_2
         ·rw [if_pos c15] at H
          have c15b0:decide (0 ≤ x41_2) = true:=decide_eq_true c15
          clear c15
          by_cases c16:x41_2 < (y240.length:Int)
          ·rw [if_pos c16] at H
           have c16b0:decide (x41_2 < (y240.length:Int)) = true:=decide_eq_true c16
           clear c16
           by_cases c17:(rd y240 x41_2) > a1
           ·rw [if_pos c17] at H
            have c17b0:decide (a1 < (rd y240 x41_2)) = true:=decide_eq_true c17
            clear c17
            by_cases c18:(rd y240 x41_2) < a2
            ·rw [if_pos c18] at H
             have c18b0:decide ((rd y240 x41_2) < a2) = true:=decide_eq_true c18
             clear c18
             by_cases c19:x7_2.length < 17592186044416
             ·rw [if_pos c19] at H
              have LMc19:=Aside0.mk c19
              clear c19
              obtain ⟨y244,hy244⟩:∃ y_:List Int,y_ = (x7_2 ++ [rd y240 x41_2]):=⟨_,rfl⟩
              replace H:(raster_edges.l1 k2 a1 a2 y244 l0 (l0.length:Int) x17_1 y240 (y240.length:Int) (wrap64 (x41_2 + 1))) = some r:=by first | (rw [hy244]; with_reducible exact H) | (have H2_:=(Option.bind_some _ _).symm.trans H; rw [hy244]; with_reducible exact H2_) | (have H2_:=(Option.bind_some _ _).symm.trans H; with_reducible exact H2_) | with_reducible exact H | (rw [hy244]; exact H) | exact H
              have Ny244:=Aside0.mk hy244
              clear hy244
              have H':=Aside0.mk H
              clear H
              have p243:0 ≤ (x41_2:Int):=of_decide_eq_true (by first | (with_reducible assumption) | assumption)
              have q243:x41_2 < (y240.length:Int):=of_decide_eq_true (by first | (with_reducible assumption) | assumption)
              obtain ⟨ad243,e243,hx243_0⟩:=Kd.at_int (Kd.R_reads' HO_39.out).2.2 x41_2 p243 q243
              cases e243
              replace p243:=eq_true p243
              replace q243:=eq_true q243
              go_wp2_with (first | ((with_reducible refine gate_builtin (b:=.append) (xs:=#[.tmp 53,.tmp 55]) rfl ?_); at_builtin; refine Kd.R_append (Kd.int .i64) (w0:=w) w.heap.size rfl (.tmp 53) (.tmp 55) 47 2 (.int .i64 0) 8 rfl Try.underlying47 info2 rfl (by decide) (by omega) u7 x7_2 (rd y240 x41_2) [.int .i64 (rd y240 x41_2)] (fun k_ => some k_ ≠ (.slice (some ad243) y240.length co13:Value).ownBlock) (fun _ => False) rfl rfl ?aP (fun _ hk => hk.elim) ?aF ?aO ?aB ?aS ?aL ?_; (case aP => exact rfl); (case aB => exact (by repeat (first | (with_reducible first | exact HB.out | apply below_alloc | apply pw_below_drewN | apply below_drew1 | refine below_set ?_ GE239.out) | exact HB.out))); (case aF => exact (fun k_ hk => Kd.fresh' (Kd.R_lt (by (with_reducible repeat (first | apply Kd.R_alloc | apply Kd.R_drewN | apply Kd.R_drew)); exact HO_39.out)) k_ hk)); (case aO => exact (by (with_reducible repeat (first | apply Kd.R_alloc | apply Kd.R_drewN | apply Kd.R_drew)); exact HO_7.out)); (case aS => exact (below_size (by repeat (first | (with_reducible first | exact HB.out | apply below_alloc | apply pw_below_drewN | apply below_drew1 | refine below_set ?_ GE239.out) | exact HB.out)))); (case aL => have:=LMc19.out; omega); intro v245 w20 ho hb hg hat; rw [← Ny244.out] at ho; have n0_:=Aside0.mk (Kd.R_after (ok:=(fun _ => True)) (by (with_reducible repeat (first | apply Kd.R_alloc | apply Kd.R_drewN | apply Kd.R_drew)); exact Kd.R_mono HO_39.out (fun _ hk => ⟨trivial,hk⟩)) hg hat); have n1_:=Aside0.mk (blk_grown (g:=gb239) (o:=.cells #[.int .i64 ((rd_T39 l0 x17_1).f0),.int .i64 ((rd_T39 l0 x17_1).f1),.int .i64 ((rd_T39 l0 x17_1).f2.f0),.int .i64 ((rd_T39 l0 x17_1).f2.f1),.int .i64 ((rd_T39 l0 x17_1).f2.f2),.int .i64 ((rd_T39 l0 x17_1).f2.f3),.int .i64 ((rd_T39 l0 x17_1).f3.f0),.int .i64 ((rd_T39 l0 x17_1).f3.f1),.int .i64 ((rd_T39 l0 x17_1).f3.f2),.int .i64 ((rd_T39 l0 x17_1).f3.f3),.int .i64 ((rd_T39 l0 x17_1).f4.f0),.int .i64 ((rd_T39 l0 x17_1).f4.f1),.int .i64 ((rd_T39 l0 x17_1).f4.f2),.int .i64 ((rd_T39 l0 x17_1).f4.f3),.int .i64 ((rd_T39 l0 x17_1).f5)] 39 (0,0)) (by (with_reducible repeat (first | refine blk_drewN ?_ _ | refine blk_drew ?_ | refine blk_alloc ?_ _)); exact BK239.out) hg (Kd.R_ne HO_7.out BK239.out (by decide))); have n2_:=Aside0.mk (hb); have n3_:=Aside0.mk (ho); clear HO_39; clear BK239; clear HB; clear HO_7; have HO_39:=n0_; have BK239:=n1_; have HB:=n2_; have HO246:=n3_; clear n0_ n1_ n2_ n3_; clear ho hb hg hat))
              go_roundg k2
              case measure => have:=HK1.out; have:=HK2.out; omega
              case rel => exact ⟨(y244),(wrap64 (x41_2 + 1)),(by first | rfl | (simp; done) | (simp [*]; done)),H',⟨by have:=HK1.out; have:=HK2.out; omega⟩,⟨by (with_reducible repeat (first | apply Kd.R_alloc | apply Kd.R_drewN | apply Kd.R_drew)); exact HO246.out⟩,⟨by (with_reducible repeat (first | apply Kd.R_alloc | apply Kd.R_drewN | apply Kd.R_drew)); exact Kd.R_mono HO_39.out (fun _ hk => hk.2)⟩,⟨by (with_reducible repeat (first | refine blk_drewN ?_ _ | refine blk_drew ?_ | refine blk_alloc ?_ _)); exact BK239.out⟩,⟨by repeat (first | (with_reducible first | exact HB.out | apply below_alloc | apply pw_below_drewN | apply below_drew1 | refine below_set ?_ GE239.out) | exact HB.out)⟩⟩
             ·rw [if_neg c19] at H
              exact absurd H (by simp)
            ·rw [if_neg c18] at H
             have c18b0:decide ((rd y240 x41_2) < a2) = false:=decide_eq_false c18
             clear c18
             have H':=Aside0.mk H
             clear H
             have p243:0 ≤ (x41_2:Int):=of_decide_eq_true (by first | (with_reducible assumption) | assumption)
             have q243:x41_2 < (y240.length:Int):=of_decide_eq_true (by first | (with_reducible assumption) | assumption)
             obtain ⟨ad243,e243,hx243_0⟩:=Kd.at_int (Kd.R_reads' HO_39.out).2.2 x41_2 p243 q243
             cases e243
             replace p243:=eq_true p243
             replace q243:=eq_true q243
             go_wp2
             go_roundg k2
             case measure => have:=HK1.out; have:=HK2.out; omega
             case rel => exact ⟨(x7_2),(wrap64 (x41_2 + 1)),(by first | rfl | (simp; done) | (simp [*]; done)),H',⟨by have:=HK1.out; have:=HK2.out; omega⟩,⟨by (with_reducible repeat (first | apply Kd.R_alloc | apply Kd.R_drewN | apply Kd.R_drew)); exact HO_7.out⟩,⟨by (with_reducible repeat (first | apply Kd.R_alloc | apply Kd.R_drewN | apply Kd.R_drew)); exact HO_39.out⟩,⟨by (with_reducible repeat (first | refine blk_drewN ?_ _ | refine blk_drew ?_ | refine blk_alloc ?_ _)); exact BK239.out⟩,⟨by repeat (first | (with_reducible first | exact HB.out | apply below_alloc | apply pw_below_drewN | apply below_drew1 | refine below_set ?_ GE239.out) | exact HB.out)⟩⟩
           ·rw [if_neg c17] at H
            have c17b0:decide (a1 < (rd y240 x41_2)) = false:=decide_eq_false c17
            clear c17
            have H':=Aside0.mk H
            clear H
            have p243:0 ≤ (x41_2:Int):=of_decide_eq_true (by first | (with_reducible assumption) | assumption)
            have q243:x41_2 < (y240.length:Int):=of_decide_eq_true (by first | (with_reducible assumption) | assumption)
            obtain ⟨ad243,e243,hx243_0⟩:=Kd.at_int (Kd.R_reads' HO_39.out).2.2 x41_2 p243 q243
            cases e243
            replace p243:=eq_true p243
            replace q243:=eq_true q243
            go_wp2
            go_roundg k2
            case measure => have:=HK1.out; have:=HK2.out; omega
            case rel => exact ⟨(x7_2),(wrap64 (x41_2 + 1)),(by first | rfl | (simp; done) | (simp [*]; done)),H',⟨by have:=HK1.out; have:=HK2.out; omega⟩,⟨by (with_reducible repeat (first | apply Kd.R_alloc | apply Kd.R_drewN | apply Kd.R_drew)); exact HO_7.out⟩,⟨by (with_reducible repeat (first | apply Kd.R_alloc | apply Kd.R_drewN | apply Kd.R_drew)); exact HO_39.out⟩,⟨by (with_reducible repeat (first | refine blk_drewN ?_ _ | refine blk_drew ?_ | refine blk_alloc ?_ _)); exact BK239.out⟩,⟨by repeat (first | (with_reducible first | exact HB.out | apply below_alloc | apply pw_below_drewN | apply below_drew1 | refine below_set ?_ GE239.out) | exact HB.out)⟩⟩
          ·rw [if_neg c16] at H
           exact absurd H (by simp)
         ·rw [if_neg c15] at H
          exact absurd H (by simp)
        ·rw [if_neg c14] at H
         have c14b0:decide (x41_2 < (y240.length:Int)) = false:=decide_eq_false c14
         clear c14
         have H':=Aside0.mk H
         clear H
         go_wp2
         go_roundg k2
         case measure => have:=HK1.out; have:=HK2.out; omega
         case rel => exact ⟨(x7_2),(wrap64 (x17_1 + 1)),(by first | rfl | (simp; done) | (simp [*]; done)),H',⟨by have:=HK1.out; have:=HK2.out; omega⟩,⟨by (with_reducible repeat (first | apply Kd.R_alloc | apply Kd.R_drewN | apply Kd.R_drew)); exact Kd.R_mono HO_7.out (fun _ hk => trivial)⟩,⟨by repeat (first | (with_reducible first | exact HB.out | apply below_alloc | apply pw_below_drewN | apply below_drew1 | refine below_set ?_ GE239.out) | exact HB.out)⟩⟩
     ·rw [if_neg c8] at H
      exact absurd H (by simp)
    ·rw [if_neg c7] at H
     exact absurd H (by simp)
   ·rw [if_neg c6] at H
    have c6b0:decide (x17_1 < (l0.length:Int)) = false:=decide_eq_false c6
    clear c6
    obtain rfl:=Option.some.inj H
    have A1:=Aside0.mk hne
    have A2:=Aside0.mk hs
    clear hne hs
    go_wp2_with (first | (go_at_call 62; refine (Go.Proofs.Ytppklhfiajjhmaa.EdgeWords.sort_own (base:=w.heap.size) (Kd.own_of_R (by (with_reducible repeat (first | apply Kd.R_alloc | apply Kd.R_drewN | apply Kd.R_drew)); exact HO_7.out)) A1.out A2.out).mono ?_; rintro e ws ⟨rfl,hos,hgs⟩; have HOs:=Aside0.mk hos; have HBs:=Aside0.mk (Below.grown (B:=w.heap.size) (a:=w) (by repeat (first | (with_reducible first | exact HB.out | apply below_alloc | apply pw_below_drewN | apply below_drew1) | exact HB.out)) hgs (by have:=HB.out.size; simpa using this) (own_base (Kd.own_of_R HO_7.out))); clear hos hgs) | (go_at_call 63; refine (Go.Proofs.Ytppklhfiajjhmaa.EdgeWords.compact_own (base:=w.heap.size) (zs:=x7_1.mergeSort fun x y => decide (x ≤ y)) (by rw [List.length_mergeSort]; exact HOs.out) (Go.Proofs.Ytppklhfiajjhmaa.EdgeWords.sort_ne A1.out) (by rw [List.length_mergeSort]; exact A2.out)).mono ?_; rintro e wc ⟨vc,rfl,_,hoc,hgc⟩; have HOc:=Aside0.mk hoc; have HBc:=Aside0.mk (Below.grown HBs.out hgc HBs.out.size (own_base HOs.out)); clear hoc hgc))
    go_ret
    exact ⟨_,by first | rfl | (simp [*,errW_none,errW_some] <;> rfl),Kd.R_of_own HOc.out (fun _ _ => trivial),HBc.out⟩
theorem raster_edges.l1_run (a1 a2:Int) (x15:List S39) (x16 x17:Int) (l2:List Int):∀ (l1 x7:List Int) (K:Nat),(l1 ++ l2).length ≤ 1000 → x7.length + l2.length ≤ 4000000 →
  raster_edges.l1 (K + l2.length + 1) a1 a2 x7 x15 x16 x17 (l1 ++ l2) ((l1 ++ l2).length:Int) (l1.length:Int) = raster_edges.l0 K a1 a2 (x7 ++ l2.filter fun n => decide (a1 < n) && decide (n < a2)) x15 x16 (wrap64 (x17 + 1)):=by
 induction l2 with
 | nil =>
  intro l1 x7 K _ _
  simp only [raster_edges.l1]
  rw [if_neg (by simp)]
  simp
 | cons n l2 ih =>
  intro l1 x7 K h1 h2
  have e:K + (n :: l2).length + 1 = (K + l2.length + 1) + 1:=by simp; omega
  rw [e]
  have ih:=fun (l1 x7:List Int) => ih l1 x7 K
  generalize K + l2.length + 1 = M at ih ⊢
  simp only [raster_edges.l1]
  have hr:rd (l1 ++ n :: l2) (l1.length:Int) = n:=by unfold rd; simp
  have hw:wrap64 ((l1.length:Int) + 1) = ((l1 ++ [n]).length:Int):=by simp at h1 ⊢; unfold wrap64; omega
  have ha:l1 ++ n :: l2 = (l1 ++ [n]) ++ l2:=by simp
  rw [if_pos (by simp; omega),if_pos (by omega),if_pos (by simp; omega),hr,hw]
  simp at h1 h2
  by_cases c1:n > a1
  ·by_cases c2:n < a2
   ·rw [if_pos c1,if_pos c2,if_pos (by omega),ha,ih (l1 ++ [n]) (x7 ++ [n]) (by simp; omega) (by simp; omega)]
    simp [c1,c2,show a1 < n from c1]
   ·rw [if_pos c1,if_neg c2,ha,ih (l1 ++ [n]) x7 (by simp; omega) (by omega)]
    simp [c2]
  ·rw [if_neg c1,ha,ih (l1 ++ [n]) x7 (by simp; omega) (by omega)]
   simp [show ¬ a1 < n from c1]
theorem raster_edges.l0_run (a1 a2:Int) (l2:List S39):∀ (l1:List S39) (x7:List Int),(l1 ++ l2).length ≤ 1000 → x7.length + 6 * l2.length ≤ 4000000 →
  raster_edges.l0 (8 * l2.length + 1) a1 a2 x7 (l1 ++ l2) ((l1 ++ l2).length:Int) (l1.length:Int) = some (x7 ++ l2.flatMap fun x => (places x).filter fun n => decide (a1 < n) && decide (n < a2)):=by
 induction l2 with
 | nil =>
  intro l1 x7 _ _
  simp only [raster_edges.l0]
  rw [if_neg (by simp)]
  simp
 | cons x l2 ih =>
  intro l1 x7 h1 h2
  have e:8 * (x :: l2).length + 1 = ((8 * l2.length + 1) + (places x).length + 1) + 1:=by simp [places]; omega
  rw [e]
  have h3:=raster_edges.l1_run a1 a2 (l1 ++ x :: l2) ((l1 ++ x :: l2).length:Int) (l1.length:Int) (places x) [] x7 (8 * l2.length + 1) (by simp [places]) (by simp [places] at h2 ⊢; omega)
  generalize (8 * l2.length + 1) + (places x).length + 1 = M at h3 ⊢
  simp only [raster_edges.l0]
  have hr:rd_T39 (l1 ++ x :: l2) (l1.length:Int) = x:=by unfold rd_T39; simp
  have hw:wrap64 ((l1.length:Int) + 1) = ((l1 ++ [x]).length:Int):=by simp at h1 ⊢; unfold wrap64; omega
  have ha:l1 ++ x :: l2 = (l1 ++ [x]) ++ l2:=by simp
  rw [if_pos (by simp; omega),if_pos (by omega),if_pos (by simp; omega),hr]
  simp only [Option.bind_some]
  simp only [List.nil_append,List.length_nil] at h3
  have hf:((places x).filter fun n => decide (a1 < n) && decide (n < a2)).length ≤ 6:=Nat.le_trans (List.length_filter_le _ _) (by simp [places])
  simp at h1 h2
  refine (Eq.trans ?_ h3).trans ?_
  ·rfl
  ·rw [hw,ha,ih (l1 ++ [x]) _ (by simp; omega) (by rw [List.length_append]; omega)]
   simp
theorem raster_edges.raw_len (l:List S39) (a1 a2:Int):(raster_edges.raw l a1 a2).length ≤ 6 * l.length + 2:=by
 unfold raster_edges.raw
 have:(l.flatMap fun x => (places x).filter fun n => decide (a1 < n) && decide (n < a2)).length ≤ 6 * l.length:=by
  induction l with
  | nil => simp
  | cons x l ih =>
   rw [List.flatMap_cons,List.length_append,List.length_cons]
   have hf:((places x).filter fun n => decide (a1 < n) && decide (n < a2)).length ≤ 6:=Nat.le_trans (List.length_filter_le _ _) (by simp [places])
   omega
 rw [List.length_append]
 show 2 + _ ≤ _
 omega
theorem raster_edges.calls (A0:Option Addr) (c0:Nat) (l0:List (S39)) (a1:Int) (a2:Int) (r:List Int) (w:World) (hr0:Kd.C k39 w A0 l0.length l0) (hc0:l0.length ≤ c0) (h:raster_edges.f l0 a1 a2 = some r) :
  Calls Try.prog 50 #[.slice A0 l0.length c0,.int .i64 a1,.int .i64 a2] w fun e w' => ∃ v0_:Value,e = .returned (v0_) ∧ Kd.R (Kd.int .i64) 2 w' w.heap.size (fun _ => True) v0_ r ∧ Below w.heap.size w w':=by
 unfold raster_edges.f at h
 by_cases hl:l0.length ≤ 1000
 ·rw [if_pos hl] at h
  obtain rfl:=Option.some.inj h
  have h2:=raster_edges.raw_len l0 a1 a2
  exact raster_edges.walk (8 * l0.length + 1) A0 c0 l0 a1 a2 (raster_edges.raw l0 a1 a2) w hr0 hc0 (raster_edges.l0_run a1 a2 l0 [] [a1,a2] (by simpa using hl) (by simp; omega)) (by simp [raster_edges.raw]) (by omega)
 ·rw [if_neg hl] at h
  cases h
def rect_Holds.f (a0_0:Int) (a0_1:Int) (a0_2:Int) (a0_3:Int) (a1:Int) (a2:Int):Option (Bool):=if a1 ≥ a0_0 then (if a1 < a0_2 then (if a2 ≥ a0_1 then (some (decide (a2 < a0_3))) else (some false)) else (some false)) else (some false)
set_option maxHeartbeats 8000000 in
set_option maxRecDepth 100000 in
open Y in
theorem slim_rect_Holds_ {a0_0:Int} {a0_1:Int} {a0_2:Int} {a0_3:Int} {a1:Int} {a2:Int} {r:Bool} (h:rect_Holds.f a0_0 a0_1 a0_2 a0_3 a1 a2 = some r):((bif decide (a1 ≥ a0_0) then bif decide (a1 < a0_2) then bif decide (a2 ≥ a0_1) then some (MV.val (Value.bool (decide (a2 < a0_3))),[]) else some (MV.val (Value.bool false),[]) else some (MV.val (Value.bool false),[]) else some (MV.val (Value.bool false),[]):Option Out)) = some (MV.val (.bool r),[]):=by
 refine Eq.trans (b:=(rect_Holds.f a0_0 a0_1 a0_2 a0_3 a1 a2).map fun q => (MV.val (.bool q),[])) ?_ (by rw [h]; rfl)
 simp only [rect_Holds.f,SlPT.slim_bi,SlPT.slim_mi,Option.bind_some,Option.map_some,Bool.cond_eq_ite,decide_eq_true_eq,beq_iff_eq,bne_iff_ne,ne_eq,ite_not,Bool.and_eq_true,and_true,Bool.false_eq_true,if_false,if_true,i64_w,Bool.not_false,Bool.not_true,Int.zero_sub,Bool.not_eq_true',decide_eq_false_iff_not,Option.map_none] <;> (try simp only [mx,mn]) <;> rfl
def owner_Shows.f (a0_0:Int) (a0_1:Int) (a0_2:Int) (a0_3:Int) (a0_4:Int) (a0_5:Int) (a0_6:Int) (a0_7:Int) (a0_8:Int) (a0_9:Int) (a0_10:Int) (a0_11:Int) (a0_12:Int) (a0_13:Int) (a0_14:Int) (a1:Int) (a2:Int):Option (Bool):=(rect_Holds.f a0_2 a0_3 a0_4 a0_5 a1 a2).bind fun t103 => (if t103 = true then ((rect_Holds.f a0_10 a0_11 a0_12 a0_13 a1 a2).bind fun t104 => (if t104 = true then (if a0_1 = 1 then ((rect_Holds.f a0_6 a0_7 a0_8 a0_9 a1 a2).bind fun t105 => (some (!t105))) else (some true)) else (some false))) else (some false))
set_option maxHeartbeats 8000000 in
set_option maxRecDepth 100000 in
open Y in
theorem slim_owner_Shows_ {a0_0:Int} {a0_1:Int} {a0_2:Int} {a0_3:Int} {a0_4:Int} {a0_5:Int} {a0_6:Int} {a0_7:Int} {a0_8:Int} {a0_9:Int} {a0_10:Int} {a0_11:Int} {a0_12:Int} {a0_13:Int} {a0_14:Int} {a1:Int} {a2:Int} {r:Bool} (h:owner_Shows.f a0_0 a0_1 a0_2 a0_3 a0_4 a0_5 a0_6 a0_7 a0_8 a0_9 a0_10 a0_11 a0_12 a0_13 a0_14 a1 a2 = some r):((bif decide (a1 ≥ a0_2) then bif decide (a1 < a0_4) then bif decide (a2 ≥ a0_3) then bif decide (a2 < a0_5) then bif decide (a1 ≥ a0_10) then bif decide (a1 < a0_12) then bif decide (a2 ≥ a0_11) then bif decide (a2 < a0_13) then bif a0_1 != 1 then some (MV.val (Value.bool true),[]) else bif decide (a1 ≥ a0_6) then bif decide (a1 < a0_8) then bif decide (a2 ≥ a0_7) then some (MV.val (Value.bool !decide (a2 < a0_9)),[]) else some (MV.val (Value.bool !false),[]) else some (MV.val (Value.bool !false),[]) else some (MV.val (Value.bool !false),[]) else some (MV.val (Value.bool false),[]) else some (MV.val (Value.bool false),[]) else some (MV.val (Value.bool false),[]) else some (MV.val (Value.bool false),[]) else some (MV.val (Value.bool false),[]) else some (MV.val (Value.bool false),[]) else some (MV.val (Value.bool false),[]) else some (MV.val (Value.bool false),[]):Option Out)) = some (MV.val (.bool r),[]):=by
 refine Eq.trans (b:=(owner_Shows.f a0_0 a0_1 a0_2 a0_3 a0_4 a0_5 a0_6 a0_7 a0_8 a0_9 a0_10 a0_11 a0_12 a0_13 a0_14 a1 a2).map fun q => (MV.val (.bool q),[])) ?_ (by rw [h]; rfl)
 simp only [owner_Shows.f,rect_Holds.f,SlPT.slim_bi,SlPT.slim_mi,Option.bind_some,Option.map_some,Bool.cond_eq_ite,decide_eq_true_eq,beq_iff_eq,bne_iff_ne,ne_eq,ite_not,Bool.and_eq_true,and_true,Bool.false_eq_true,if_false,if_true,i64_w,Bool.not_false,Bool.not_true,Int.zero_sub,Bool.not_eq_true',decide_eq_false_iff_not,Option.map_none] <;> (try simp only [mx,mn]) <;> rfl
theorem owner_Shows.calls (a0_0:Int) (a0_1:Int) (a0_2:Int) (a0_3:Int) (a0_4:Int) (a0_5:Int) (a0_6:Int) (a0_7:Int) (a0_8:Int) (a0_9:Int) (a0_10:Int) (a0_11:Int) (a0_12:Int) (a0_13:Int) (a0_14:Int) (a1:Int) (a2:Int) (r:Bool) (w:World) (h:owner_Shows.f a0_0 a0_1 a0_2 a0_3 a0_4 a0_5 a0_6 a0_7 a0_8 a0_9 a0_10 a0_11 a0_12 a0_13 a0_14 a1 a2 = some r) :
  Calls Try.prog 64 #[.agg #[.int .i64 a0_0,.int .i64 a0_1,.int .i64 a0_2,.int .i64 a0_3,.int .i64 a0_4,.int .i64 a0_5,.int .i64 a0_6,.int .i64 a0_7,.int .i64 a0_8,.int .i64 a0_9,.int .i64 a0_10,.int .i64 a0_11,.int .i64 a0_12,.int .i64 a0_13,.int .i64 a0_14],.int .i64 a1,.int .i64 a2] w fun e w' => e = .returned (.bool r) ∧ Below w.heap.size w w':=by
 have hx:Y.xfun Try.prog SlPT.E SlPT.C71 3 64 [Y.MV.agg [Y.MV.val (.int .i64 a0_0),Y.MV.val (.int .i64 a0_1),Y.MV.val (.int .i64 a0_2),Y.MV.val (.int .i64 a0_3),Y.MV.val (.int .i64 a0_4),Y.MV.val (.int .i64 a0_5),Y.MV.val (.int .i64 a0_6),Y.MV.val (.int .i64 a0_7),Y.MV.val (.int .i64 a0_8),Y.MV.val (.int .i64 a0_9),Y.MV.val (.int .i64 a0_10),Y.MV.val (.int .i64 a0_11),Y.MV.val (.int .i64 a0_12),Y.MV.val (.int .i64 a0_13),Y.MV.val (.int .i64 a0_14)],Y.MV.val (.int .i64 a1),Y.MV.val (.int .i64 a2)] [] Y.fin = some (Y.MV.val (.bool r),[]):=by
  rw [SlPT.nf64]
  exact slim_owner_Shows_ h
 refine (Y.call_of SlPT.E_ok SlPT.C71_ok (fun _ _ _ => trivial) SlPT.mixed rfl rfl hx w).mono ?_
 rintro e w' ⟨rfl,hB⟩
 exact ⟨rfl,hB⟩
def owner_Of.l0:Nat → List (S39) → Int → Int → Int → Option (Int × Bool)
 | 0,_,_,_,_ => none
 | k + 1,x0,x1,x2,x8 => if x8 ≥ 0 then (if 0 ≤ x8 then (if x8 < (x0.length:Int) then ((owner_Shows.f ((rd_T39 x0 x8).f0) ((rd_T39 x0 x8).f1) ((rd_T39 x0 x8).f2.f0) ((rd_T39 x0 x8).f2.f1) ((rd_T39 x0 x8).f2.f2) ((rd_T39 x0 x8).f2.f3) ((rd_T39 x0 x8).f3.f0) ((rd_T39 x0 x8).f3.f1) ((rd_T39 x0 x8).f3.f2) ((rd_T39 x0 x8).f3.f3) ((rd_T39 x0 x8).f4.f0) ((rd_T39 x0 x8).f4.f1) ((rd_T39 x0 x8).f4.f2) ((rd_T39 x0 x8).f4.f3) ((rd_T39 x0 x8).f5) x1 x2).bind fun t107 => (if t107 = true then (some (x8,true)) else (owner_Of.l0 k x0 x1 x2 (wrap64 (x8 - 1))))) else (none)) else (none)) else (some (0,false))
def owner_Of.f (k:Nat) (l0:List (S39)) (a1:Int) (a2:Int):Option (Int × Bool):=owner_Of.l0 k l0 a1 a2 (wrap64 ((l0.length:Int) - 1))
theorem owner_Of.mono_l:∀ k,(∀ y0 y1 y2 y3,LeO (owner_Of.l0 k y0 y1 y2 y3) (owner_Of.l0 (k + 1) y0 y1 y2 y3))
 | 0 => fun _ _ _ _ r h => by simp [owner_Of.l0] at h
 | k + 1 => by
  have ih0:=owner_Of.mono_l k
  ·intro y0 y1 y2 y3
   unfold owner_Of.l0
   repeat' first
   | (with_reducible exact ih0 _ _ _ _)
   | (with_reducible exact LeO.refl _)
   | (with_reducible exact LeO.none _)
   | (with_reducible refine LeO.ite ?_ ?_)
   | (with_reducible refine LeO.bind ?_ (fun _ => ?_))
   | exact ih0 _ _ _ _
   | exact LeO.none _
   | refine LeO.ite ?_ ?_
   | refine LeO.bind ?_ (fun _ => ?_)
theorem owner_Of.mono:∀ a0 a1 a2 k,LeO (owner_Of.f k a0 a1 a2) (owner_Of.f (k + 1) a0 a1 a2):=by
 intro a0 a1 a2 k
 have ih0:=owner_Of.mono_l k
 unfold owner_Of.f
 repeat' first
   | (with_reducible exact ih0 _ _ _ _)
   | (with_reducible exact LeO.refl _)
   | (with_reducible exact LeO.none _)
   | (with_reducible refine LeO.ite ?_ ?_)
   | (with_reducible refine LeO.bind ?_ (fun _ => ?_))
   | exact ih0 _ _ _ _
   | exact LeO.none _
   | refine LeO.ite ?_ ?_
   | refine LeO.bind ?_ (fun _ => ?_)
set_option maxHeartbeats 8000000 in
set_option maxRecDepth 100000 in
theorem owner_Of.calls (k:Nat) (A0:Option Addr) (c0:Nat) (l0:List (S39)) (a1:Int) (a2:Int) (r1:Int) (r2:Bool) (w:World) (hr0:Kd.C k39 w A0 l0.length l0) (hc0:l0.length ≤ c0) (h:owner_Of.f k l0 a1 a2 = some (r1,r2)) :
  Calls Try.prog 51 #[.slice A0 l0.length c0,.int .i64 a1,.int .i64 a2] w fun e w' => e = .returned (.tuple #[.int .i64 r1,.bool r2]) ∧ Below w.heap.size w w':=by
 have hu39:=Try.underlying39
 have HR0:=Aside0.mk hr0
 have HC0:=Aside0.mk hc0
 clear hr0 hc0
 have HB:=Aside0.mk (Below.refl w.heap.size w)
 have H:(owner_Of.l0 k l0 a1 a2 (wrap64 ((l0.length:Int) - 1))) = some (r1,r2):=h
 clear h
 have H':=Aside0.mk H
 clear H
 go_enter Try.func51,Try.ntmps51
 go_wp2
 go_loopg [8] k (fun kq v8 w' => ∃ (x8_1:Int),v8 = .int .i64 x8_1 ∧ Aside0 (owner_Of.l0 kq l0 a1 a2 x8_1 = some (r1,r2)) ∧ Aside0 (kq ≤ k) ∧ Aside0 (Below w.heap.size w w'))
 case atStart => exact ⟨(wrap64 ((l0.length:Int) - 1)),(by first | rfl | (simp; done) | (simp [*]; done)),H',⟨Nat.le_refl _⟩,⟨by repeat (first | (with_reducible first | exact HB.out | apply below_alloc | apply pw_below_drewN | apply below_drew1) | exact HB.out)⟩⟩
 case round =>
  clear H'
  try clear p2
  obtain ⟨x8_1,rfl,HA,HK1,HB⟩:=hrel
  cases gk with
  | zero => exact absurd HA.out (by simp [owner_Of.l0])
  | succ k1 =>
   have H:=HA.out
   clear HA
   simp only [owner_Of.l0] at H
   by_cases c4:x8_1 ≥ 0
   ·rw [if_pos c4] at H
    have c4b0:decide (0 ≤ x8_1) = true:=decide_eq_true c4
    clear c4
    by_cases c5:0 ≤ x8_1
    ·rw [if_pos c5] at H
     have c5b0:decide (0 ≤ x8_1) = true:=decide_eq_true c5
     clear c5
     by_cases c6:x8_1 < (l0.length:Int)
     ·rw [if_pos c6] at H
      have c6b0:decide (x8_1 < (l0.length:Int)) = true:=decide_eq_true c6
      clear c6
      replace H:=Option.bind_eq_some_iff.mp H
      obtain ⟨t107,A70,H⟩:=H
      replace H:(if t107 = true then (some (x8_1,true)) else (owner_Of.l0 k1 l0 a1 a2 (wrap64 (x8_1 - 1)))) = some (r1,r2):=H
      have A7:=Aside0.mk A70
      clear A70
      by_cases c8:t107 = true
      ·subst c8
       have H1:(some (x8_1,true)) = some (r1,r2):=by rw [if_pos rfl] at H; exact H
       clear H
       have H:=H1
       clear H1
       simp only [Option.some.injEq,Prod.mk.injEq] at H
       obtain ⟨rfl,rfl⟩:=H
       have p106:0 ≤ (x8_1:Int):=of_decide_eq_true (by first | (with_reducible assumption) | assumption)
       have q106:x8_1 < (l0.length:Int):=of_decide_eq_true (by first | (with_reducible assumption) | assumption)
       obtain ⟨ad106,e106,hx106_0,hx106_1,hx106_2,hx106_3,hx106_4,hx106_5,hx106_6,hx106_7,hx106_8,hx106_9,hx106_10,hx106_11,hx106_12,hx106_13,hx106_14⟩:=at_T39 HR0.out x8_1 p106 q106
       cases e106
       replace hx106_0:=(HB.out.cell (World.block_lt_of_cell? w _ hx106_0)).trans hx106_0
       replace hx106_1:=(HB.out.cell (World.block_lt_of_cell? w _ hx106_1)).trans hx106_1
       replace hx106_2:=(HB.out.cell (World.block_lt_of_cell? w _ hx106_2)).trans hx106_2
       replace hx106_3:=(HB.out.cell (World.block_lt_of_cell? w _ hx106_3)).trans hx106_3
       replace hx106_4:=(HB.out.cell (World.block_lt_of_cell? w _ hx106_4)).trans hx106_4
       replace hx106_5:=(HB.out.cell (World.block_lt_of_cell? w _ hx106_5)).trans hx106_5
       replace hx106_6:=(HB.out.cell (World.block_lt_of_cell? w _ hx106_6)).trans hx106_6
       replace hx106_7:=(HB.out.cell (World.block_lt_of_cell? w _ hx106_7)).trans hx106_7
       replace hx106_8:=(HB.out.cell (World.block_lt_of_cell? w _ hx106_8)).trans hx106_8
       replace hx106_9:=(HB.out.cell (World.block_lt_of_cell? w _ hx106_9)).trans hx106_9
       replace hx106_10:=(HB.out.cell (World.block_lt_of_cell? w _ hx106_10)).trans hx106_10
       replace hx106_11:=(HB.out.cell (World.block_lt_of_cell? w _ hx106_11)).trans hx106_11
       replace hx106_12:=(HB.out.cell (World.block_lt_of_cell? w _ hx106_12)).trans hx106_12
       replace hx106_13:=(HB.out.cell (World.block_lt_of_cell? w _ hx106_13)).trans hx106_13
       replace hx106_14:=(HB.out.cell (World.block_lt_of_cell? w _ hx106_14)).trans hx106_14
       replace p106:=eq_true p106
       replace q106:=eq_true q106
       go_wp2_with (first | ((with_reducible refine gate_callee (f:=64) rfl ?_); refine goesL_ (some 22) rfl rfl Try.func64 (by kernel_rfl) rfl #[.agg #[.int .i64 ((rd_T39 l0 x8_1).f0),.int .i64 ((rd_T39 l0 x8_1).f1),.int .i64 ((rd_T39 l0 x8_1).f2.f0),.int .i64 ((rd_T39 l0 x8_1).f2.f1),.int .i64 ((rd_T39 l0 x8_1).f2.f2),.int .i64 ((rd_T39 l0 x8_1).f2.f3),.int .i64 ((rd_T39 l0 x8_1).f3.f0),.int .i64 ((rd_T39 l0 x8_1).f3.f1),.int .i64 ((rd_T39 l0 x8_1).f3.f2),.int .i64 ((rd_T39 l0 x8_1).f3.f3),.int .i64 ((rd_T39 l0 x8_1).f4.f0),.int .i64 ((rd_T39 l0 x8_1).f4.f1),.int .i64 ((rd_T39 l0 x8_1).f4.f2),.int .i64 ((rd_T39 l0 x8_1).f4.f3),.int .i64 ((rd_T39 l0 x8_1).f5)],.int .i64 a1,.int .i64 a2] rfl (by (try simp only [List.map_toArray,List.map_cons,List.map_nil]); first | done | rfl | (simp only [List.length_drop,List.length_take]; rfl)) ?_; (with_reducible refine (owner_Shows.calls ((rd_T39 l0 x8_1).f0) ((rd_T39 l0 x8_1).f1) ((rd_T39 l0 x8_1).f2.f0) ((rd_T39 l0 x8_1).f2.f1) ((rd_T39 l0 x8_1).f2.f2) ((rd_T39 l0 x8_1).f2.f3) ((rd_T39 l0 x8_1).f3.f0) ((rd_T39 l0 x8_1).f3.f1) ((rd_T39 l0 x8_1).f3.f2) ((rd_T39 l0 x8_1).f3.f3) ((rd_T39 l0 x8_1).f4.f0) ((rd_T39 l0 x8_1).f4.f1) ((rd_T39 l0 x8_1).f4.f2) ((rd_T39 l0 x8_1).f4.f3) ((rd_T39 l0 x8_1).f5) a1 a2 true _ A7.out).mono ?_); rintro e w9 ⟨rfl,hb⟩; refine ⟨_,rfl,?_⟩; have n0_:=Aside0.mk (below_step (by repeat (first | (with_reducible first | exact HB.out | apply below_alloc | apply pw_below_drewN | apply below_drew1) | exact HB.out)) hb); clear HB; have HB:=n0_; clear n0_; (try clear hb); (try clear hb2); (try clear hk); (try clear hi)))
       go_ret2
       exact ⟨by first | rfl | (simp [errW_none,errW_some] <;> rfl) | (simp [*,errW_none,errW_some] <;> rfl),by repeat (first | (with_reducible first | exact HB.out | apply below_alloc | apply pw_below_drewN | apply below_drew1) | exact HB.out)⟩
      ·replace c8:=Bool.eq_false_iff.mpr c8
       subst c8
       have H1:(owner_Of.l0 k1 l0 a1 a2 (wrap64 (x8_1 - 1))) = some (r1,r2):=by rw [if_neg (show ¬ (false = true) by decide)] at H; exact H
       clear H
       have H:=H1
       clear H1
       have H':=Aside0.mk H
       clear H
       have p106:0 ≤ (x8_1:Int):=of_decide_eq_true (by first | (with_reducible assumption) | assumption)
       have q106:x8_1 < (l0.length:Int):=of_decide_eq_true (by first | (with_reducible assumption) | assumption)
       obtain ⟨ad106,e106,hx106_0,hx106_1,hx106_2,hx106_3,hx106_4,hx106_5,hx106_6,hx106_7,hx106_8,hx106_9,hx106_10,hx106_11,hx106_12,hx106_13,hx106_14⟩:=at_T39 HR0.out x8_1 p106 q106
       cases e106
       replace hx106_0:=(HB.out.cell (World.block_lt_of_cell? w _ hx106_0)).trans hx106_0
       replace hx106_1:=(HB.out.cell (World.block_lt_of_cell? w _ hx106_1)).trans hx106_1
       replace hx106_2:=(HB.out.cell (World.block_lt_of_cell? w _ hx106_2)).trans hx106_2
       replace hx106_3:=(HB.out.cell (World.block_lt_of_cell? w _ hx106_3)).trans hx106_3
       replace hx106_4:=(HB.out.cell (World.block_lt_of_cell? w _ hx106_4)).trans hx106_4
       replace hx106_5:=(HB.out.cell (World.block_lt_of_cell? w _ hx106_5)).trans hx106_5
       replace hx106_6:=(HB.out.cell (World.block_lt_of_cell? w _ hx106_6)).trans hx106_6
       replace hx106_7:=(HB.out.cell (World.block_lt_of_cell? w _ hx106_7)).trans hx106_7
       replace hx106_8:=(HB.out.cell (World.block_lt_of_cell? w _ hx106_8)).trans hx106_8
       replace hx106_9:=(HB.out.cell (World.block_lt_of_cell? w _ hx106_9)).trans hx106_9
       replace hx106_10:=(HB.out.cell (World.block_lt_of_cell? w _ hx106_10)).trans hx106_10
       replace hx106_11:=(HB.out.cell (World.block_lt_of_cell? w _ hx106_11)).trans hx106_11
       replace hx106_12:=(HB.out.cell (World.block_lt_of_cell? w _ hx106_12)).trans hx106_12
       replace hx106_13:=(HB.out.cell (World.block_lt_of_cell? w _ hx106_13)).trans hx106_13
       replace hx106_14:=(HB.out.cell (World.block_lt_of_cell? w _ hx106_14)).trans hx106_14
       replace p106:=eq_true p106
       replace q106:=eq_true q106
       go_wp2_with (first | ((with_reducible refine gate_callee (f:=64) rfl ?_); refine goesL_ (some 22) rfl rfl Try.func64 (by kernel_rfl) rfl #[.agg #[.int .i64 ((rd_T39 l0 x8_1).f0),.int .i64 ((rd_T39 l0 x8_1).f1),.int .i64 ((rd_T39 l0 x8_1).f2.f0),.int .i64 ((rd_T39 l0 x8_1).f2.f1),.int .i64 ((rd_T39 l0 x8_1).f2.f2),.int .i64 ((rd_T39 l0 x8_1).f2.f3),.int .i64 ((rd_T39 l0 x8_1).f3.f0),.int .i64 ((rd_T39 l0 x8_1).f3.f1),.int .i64 ((rd_T39 l0 x8_1).f3.f2),.int .i64 ((rd_T39 l0 x8_1).f3.f3),.int .i64 ((rd_T39 l0 x8_1).f4.f0),.int .i64 ((rd_T39 l0 x8_1).f4.f1),.int .i64 ((rd_T39 l0 x8_1).f4.f2),.int .i64 ((rd_T39 l0 x8_1).f4.f3),.int .i64 ((rd_T39 l0 x8_1).f5)],.int .i64 a1,.int .i64 a2] rfl (by (try simp only [List.map_toArray,List.map_cons,List.map_nil]); first | done | rfl | (simp only [List.length_drop,List.length_take]; rfl)) ?_; (with_reducible refine (owner_Shows.calls ((rd_T39 l0 x8_1).f0) ((rd_T39 l0 x8_1).f1) ((rd_T39 l0 x8_1).f2.f0) ((rd_T39 l0 x8_1).f2.f1) ((rd_T39 l0 x8_1).f2.f2) ((rd_T39 l0 x8_1).f2.f3) ((rd_T39 l0 x8_1).f3.f0) ((rd_T39 l0 x8_1).f3.f1) ((rd_T39 l0 x8_1).f3.f2) ((rd_T39 l0 x8_1).f3.f3) ((rd_T39 l0 x8_1).f4.f0) ((rd_T39 l0 x8_1).f4.f1) ((rd_T39 l0 x8_1).f4.f2) ((rd_T39 l0 x8_1).f4.f3) ((rd_T39 l0 x8_1).f5) a1 a2 false _ A7.out).mono ?_); rintro e w10 ⟨rfl,hb⟩; refine ⟨_,rfl,?_⟩; have n0_:=Aside0.mk (below_step (by repeat (first | (with_reducible first | exact HB.out | apply below_alloc | apply pw_below_drewN | apply below_drew1) | exact HB.out)) hb); clear HB; have HB:=n0_; clear n0_; (try clear hb); (try clear hb2); (try clear hk); (try clear hi)))
       go_roundg k1
       case measure => have:=HK1.out; omega
       case rel => exact ⟨(wrap64 (x8_1 - 1)),(by first | rfl | (simp; done) | (simp [*]; done)),H',⟨by have:=HK1.out; omega⟩,⟨by repeat (first | (with_reducible first | exact HB.out | apply below_alloc | apply pw_below_drewN | apply below_drew1) | exact HB.out)⟩⟩
     ·rw [if_neg c6] at H
      exact absurd H (by simp)
    ·rw [if_neg c5] at H
     exact absurd H (by simp)
   ·rw [if_neg c4] at H
    have c4b0:decide (0 ≤ x8_1) = false:=decide_eq_false c4
    clear c4
    simp only [Option.some.injEq,Prod.mk.injEq] at H
    obtain ⟨rfl,rfl⟩:=H
    go_wp2
    go_ret2
    exact ⟨by first | rfl | (simp [errW_none,errW_some] <;> rfl) | (simp [*,errW_none,errW_some] <;> rfl),by repeat (first | (with_reducible first | exact HB.out | apply below_alloc | apply pw_below_drewN | apply below_drew1) | exact HB.out)⟩
end Go.Proofs.Ytppklhfiajjhmaa.PPT
end
section
namespace Go.Proofs.Ytppklhfiajjhmaa.PPT
open Go.RowKit Go.Proofs.YtppklhfiajjhmaaW.PrintWords Go.Proofs.YtppklhfiajjhmaaW.PrintLast Go.Proofs.YtppklhfiajjhmaaW.PrintMore
attribute [local go_sem] max2_int min2_int max_two min_two max_three min_three max_four min_four   -- for this text's walks alone
set_option linter.unusedVariables false
set_option linter.unusedSimpArgs false
def raster_Runs.l0:Nat → List (S39) → Int → List (S56) → List Int → List Int → Int → Int → Option ((List (S56)))
 | 0,_,_,_,_,_,_,_ => none
 | k + 1,x0,x1,x9,x10,x27,x28,x29 => if x29 < x28 then (if 0 ≤ x29 then (if x29 < (x27.length:Int) then ((owner_Of.f k x0 (rd x27 x29) x1).bind fun bt116 => (if bt116.2 = true then (if (wrap64 ((x9.length:Int) - 1)) ≥ 0 then (if 0 ≤ (wrap64 ((x9.length:Int) - 1)) then (if (wrap64 ((x9.length:Int) - 1)) < (x9.length:Int) then (if ((rd_T56 x9 (wrap64 ((x9.length:Int) - 1))).f2) = bt116.1 then (if ((rd_T56 x9 (wrap64 ((x9.length:Int) - 1))).f1) = (rd x27 x29) then (if 0 ≤ (wrap64 (x29 + 1)) then (if (wrap64 (x29 + 1)) < (x10.length:Int) then (raster_Runs.l0 k x0 x1 (x9.set ((wrap64 ((x9.length:Int) - 1)):Int).toNat (⟨(rd_T56 x9 (wrap64 ((x9.length:Int) - 1))).f0,rd x10 (wrap64 (x29 + 1)),(rd_T56 x9 (wrap64 ((x9.length:Int) - 1))).f2⟩:S56)) x10 x27 x28 (wrap64 (x29 + 1))) else (none)) else (none)) else (if 0 ≤ (wrap64 (x29 + 1)) then (if (wrap64 (x29 + 1)) < (x10.length:Int) then (if x9.length < 5864062014805 then (raster_Runs.l0 k x0 x1 (x9 ++ [(⟨rd x27 x29,rd x10 (wrap64 (x29 + 1)),bt116.1⟩:S56)]) x10 x27 x28 (wrap64 (x29 + 1))) else (none)) else (none)) else (none))) else (if 0 ≤ (wrap64 (x29 + 1)) then (if (wrap64 (x29 + 1)) < (x10.length:Int) then (if x9.length < 5864062014805 then (raster_Runs.l0 k x0 x1 (x9 ++ [(⟨rd x27 x29,rd x10 (wrap64 (x29 + 1)),bt116.1⟩:S56)]) x10 x27 x28 (wrap64 (x29 + 1))) else (none)) else (none)) else (none))) else (none)) else (none)) else (if 0 ≤ (wrap64 (x29 + 1)) then (if (wrap64 (x29 + 1)) < (x10.length:Int) then (if x9.length < 5864062014805 then (raster_Runs.l0 k x0 x1 (x9 ++ [(⟨rd x27 x29,rd x10 (wrap64 (x29 + 1)),bt116.1⟩:S56)]) x10 x27 x28 (wrap64 (x29 + 1))) else (none)) else (none)) else (none))) else (raster_Runs.l0 k x0 x1 x9 x10 x27 x28 (wrap64 (x29 + 1))))) else (none)) else (none)) else (some x9)
def raster_Runs.f (k:Nat) (l0:List (S39)) (a1:Int) (a2:Int) (a3:Int):Option ((List (S56))):=if a2 ≥ a3 then (some ([]:List (S56))) else ((raster_edges.f l0 a2 a3).bind fun t108 => (if 0 ≤ (wrap64 ((t108.length:Int) - 1)) then (if (wrap64 ((t108.length:Int) - 1)) ≤ (t108.length:Int) then ((some (t108.take ((wrap64 ((t108.length:Int) - 1)):Int).toNat:List Int)).bind fun y111 => (raster_Runs.l0 k l0 a1 ([]:List (S56)) t108 y111 (y111.length:Int) 0)) else (none)) else (none)))
theorem raster_Runs.mono_l:∀ k,(∀ y0 y1 y2 y3 y4 y5 y6,LeO (raster_Runs.l0 k y0 y1 y2 y3 y4 y5 y6) (raster_Runs.l0 (k + 1) y0 y1 y2 y3 y4 y5 y6))
 | 0 => fun _ _ _ _ _ _ _ r h => by simp [raster_Runs.l0] at h
 | k + 1 => by
  have ih0:=raster_Runs.mono_l k
  ·intro y0 y1 y2 y3 y4 y5 y6
   unfold raster_Runs.l0
   repeat' first
   | (with_reducible exact ih0 _ _ _ _ _ _ _)
   | (with_reducible exact owner_Of.mono _ _ _ _)
   | (with_reducible exact LeO.refl _)
   | (with_reducible exact LeO.none _)
   | (with_reducible refine LeO.ite ?_ ?_)
   | (with_reducible refine LeO.bind ?_ (fun _ => ?_))
   | exact ih0 _ _ _ _ _ _ _
   | exact owner_Of.mono _ _ _ _
   | exact LeO.none _
   | refine LeO.ite ?_ ?_
   | refine LeO.bind ?_ (fun _ => ?_)
theorem raster_Runs.mono:∀ a0 a1 a2 a3 k,LeO (raster_Runs.f k a0 a1 a2 a3) (raster_Runs.f (k + 1) a0 a1 a2 a3):=by
 intro a0 a1 a2 a3 k
 have ih0:=raster_Runs.mono_l k
 unfold raster_Runs.f
 repeat' first
   | (with_reducible exact ih0 _ _ _ _ _ _ _)
   | (with_reducible exact owner_Of.mono _ _ _ _)
   | (with_reducible exact LeO.refl _)
   | (with_reducible exact LeO.none _)
   | (with_reducible refine LeO.ite ?_ ?_)
   | (with_reducible refine LeO.bind ?_ (fun _ => ?_))
   | exact ih0 _ _ _ _ _ _ _
   | exact owner_Of.mono _ _ _ _
   | exact LeO.none _
   | refine LeO.ite ?_ ?_
   | refine LeO.bind ?_ (fun _ => ?_)
theorem rd_cut {xs ys:List Int} {n:Nat} (e:ys = xs.take n) {i:Int} (h0:0 ≤ i) (h1:i < (ys.length:Int)):i < (xs.length:Int) ∧ rd xs i = rd ys i:=by
 subst e
 have h2:i.toNat < (xs.take n).length:=by omega
 refine ⟨by rw [List.length_take] at h1; omega,?_⟩
 unfold rd
 rw [List.getD_eq_getElem?_getD,List.getD_eq_getElem?_getD,List.getElem?_take_of_lt (by rw [List.length_take] at h2; omega)]
set_option maxHeartbeats 8000000 in
set_option maxRecDepth 100000 in
theorem raster_Runs.calls (k:Nat) (A0:Option Addr) (c0:Nat) (l0:List (S39)) (a1:Int) (a2:Int) (a3:Int) (r:List (S56)) (w:World) (hr0:Kd.C k39 w A0 l0.length l0) (hc0:l0.length ≤ c0) (h:raster_Runs.f k l0 a1 a2 a3 = some r) :
  Calls Try.prog 30 #[.slice A0 l0.length c0,.int .i64 a1,.int .i64 a2,.int .i64 a3] w fun e w' => ∃ v0_:Value,e = .returned (v0_) ∧ Kd.R k56 56 w' w.heap.size (fun _ => True) v0_ r ∧ Below w.heap.size w w':=by
 have hu56:=Try.underlying56
 have HR0:=Aside0.mk hr0
 have HC0:=Aside0.mk hc0
 clear hr0 hc0
 have HB:=Aside0.mk (Below.refl w.heap.size w)
 have H:(if a2 ≥ a3 then (some ([]:List (S56))) else ((raster_edges.f l0 a2 a3).bind fun t108 => (if 0 ≤ (wrap64 ((t108.length:Int) - 1)) then (if (wrap64 ((t108.length:Int) - 1)) ≤ (t108.length:Int) then ((some (t108.take ((wrap64 ((t108.length:Int) - 1)):Int).toNat:List Int)).bind fun y111 => (raster_Runs.l0 k l0 a1 ([]:List (S56)) t108 y111 (y111.length:Int) 0)) else (none)) else (none)))) = some r:=h
 clear h
 by_cases c5:a2 ≥ a3
 ·rw [if_pos c5] at H
  have c5b0:decide (a3 ≤ a2) = true:=decide_eq_true c5
  clear c5
  obtain rfl:=Option.some.inj H
  go_enter Try.func30,Try.ntmps30
  go_wp2
  go_ret
  exact ⟨_,by first | rfl | (simp [errW_none,errW_some] <;> rfl) | (simp [*,errW_none,errW_some] <;> rfl),by first | exact Kd.R_nil _ _ _ _ _ | exact Kd.N_nil _ _ _ _ _ | exact Kd.V_nil _ _ _ _ _ | exact Kd.Q_nil _ _ _ _ _ | exact Kd.S_nil _ _ _ _ _,by repeat (first | (with_reducible first | exact HB.out | apply below_alloc | apply pw_below_drewN | apply below_drew1) | exact HB.out)⟩
 ·rw [if_neg c5] at H
  have c5b0:decide (a3 ≤ a2) = false:=decide_eq_false c5
  clear c5
  replace H:=Option.bind_eq_some_iff.mp H
  obtain ⟨t108,A60,H⟩:=H
  replace H:(if 0 ≤ (wrap64 ((t108.length:Int) - 1)) then (if (wrap64 ((t108.length:Int) - 1)) ≤ (t108.length:Int) then ((some (t108.take ((wrap64 ((t108.length:Int) - 1)):Int).toNat:List Int)).bind fun y111 => (raster_Runs.l0 k l0 a1 ([]:List (S56)) t108 y111 (y111.length:Int) 0)) else (none)) else (none)) = some r:=H
  have A6:=Aside0.mk A60
  clear A60
  obtain ⟨ji7,hji7⟩:∃ j_:Int,(wrap64 ((t108.length:Int) - 1)) = j_:=⟨_,rfl⟩
  replace H:(if 0 ≤ (ji7) then (if (ji7) ≤ (t108.length:Int) then ((some (t108.take ((ji7):Int).toNat:List Int)).bind fun y111 => (raster_Runs.l0 k l0 a1 ([]:List (S56)) t108 y111 (y111.length:Int) 0)) else (none)) else (none)) = some r:=by first | (rw [hji7] at H; exact H) | (simp only [hji7] at H ⊢; exact H)
  (try rw [hji7] at A6)
  have hji7w:(IntKind.i64.wrap ((t108.length:Int) - 1)) = ji7:=(i64_w _).trans hji7
  by_cases c8:0 ≤ (ji7)
  ·rw [if_pos c8] at H
   have c8b0:=eq_true c8
   have c8b1:decide (0 ≤ (ji7)) = true:=decide_eq_true c8
   clear c8
   by_cases c9:(ji7) ≤ (t108.length:Int)
   ·rw [if_pos c9] at H
    have c9b0:=eq_true c9
    have c9b1:decide ((ji7) ≤ (t108.length:Int)) = true:=decide_eq_true c9
    clear c9
    obtain ⟨y111,hy111⟩:∃ y_:List Int,y_ = (t108.take ((ji7):Int).toNat):=⟨_,rfl⟩
    replace H:(raster_Runs.l0 k l0 a1 ([]:List (S56)) t108 y111 (y111.length:Int) 0) = some r:=by first | (rw [hy111]; with_reducible exact H) | (have H2_:=(Option.bind_some _ _).symm.trans H; rw [hy111]; with_reducible exact H2_) | (have H2_:=(Option.bind_some _ _).symm.trans H; with_reducible exact H2_) | with_reducible exact H | (rw [hy111]; exact H) | exact H
    have Ny111:=Aside0.mk hy111
    clear hy111
    have H':=Aside0.mk H
    clear H
    go_enter Try.func30,Try.ntmps30
    go_wp2_with (first | ((with_reducible refine gate_callee (f:=50) rfl ?_); refine goesL_ (some 22) rfl rfl Try.func50 (by kernel_rfl) rfl #[.slice A0 l0.length c0,.int .i64 a2,.int .i64 a3] rfl (by (try simp only [List.map_toArray,List.map_cons,List.map_nil]); first | done | rfl | (simp only [List.length_drop,List.length_take]; rfl)) ?_; (with_reducible refine (raster_edges.calls _ _ l0 a2 a3 t108 _ ?side1 ?side2 A6.out).mono ?_); (case side1 => repeat (first | exact HR0.out | (with_reducible refine Kd.C_alloc ?_ _) | (with_reducible refine Kd.C_drewN ?_ _) | (with_reducible refine Kd.C_drew ?_))); (case side2 => exact HC0.out); rintro e w10 ⟨v109,rfl,ho0,hb⟩; refine ⟨_,rfl,?_⟩; have n0_:=Aside0.mk (Kd.R_lower ho0 (below_size (by repeat (first | (with_reducible first | exact HB.out | apply below_alloc | apply pw_below_drewN | apply below_drew1) | exact HB.out)))); have n1_:=Aside0.mk (below_step (by repeat (first | (with_reducible first | exact HB.out | apply below_alloc | apply pw_below_drewN | apply below_drew1) | exact HB.out)) hb); clear HB; have HO110:=n0_; have HB:=n1_; clear n0_ n1_; (try clear hb); (try clear hb2); (try clear hk); (try clear hi); (try clear ho0); obtain ⟨Ao11,co11,eo11⟩:=Kd.R_slice HO110.out; subst eo11; have q12:((ji7):Int) ≤ ((t108.length:Int):Int):=of_decide_eq_true (by first | (with_reducible assumption) | assumption); obtain ⟨i012,hi012,_,hsz12,_⟩:=info_parts info2; have hroom12:t108.length ≤ co11:=(Kd.R_reads' HO110.out).2.1; have hC12:Kd.C (Kd.int .i64) _ Ao11 t108.length t108:=(Kd.R_reads' HO110.out).2.2; have hcut12:=cut_to (P:=Try.prog) 47 2 .i64 Try.underlying47 hi012 Ao11 t108.length co11 (ji7) (of_decide_eq_true (by first | (with_reducible assumption) | assumption)) q12 hroom12; have hr12:=Kd.C_take (m:=((ji7):Int).toNat) hC12 (by omega); have hy12:y111.length = ((ji7):Int).toNat:=(by rw [Ny111.out,List.length_take]; omega); rw [← Ny111.out] at hr12; rw [← hy12] at hcut12; have HR114:=Aside0.mk hr12; have HC114:=Aside0.mk (show y111.length ≤ co11 from by omega); clear hr12 hC12 hroom12 hi012 hsz12; have KY12:=Aside0.mk hy12; clear hy12; have KL12:=Aside0.mk (show ((ji7):Int).toNat ≤ t108.length from by omega); replace q12:=eq_true q12))
    go_loopg [9,29] k (fun kq v9 v29 w' => ∃ (x9_1:List (S56)) (x29_1:Int),v29 = .int .i64 x29_1 ∧ Aside0 (raster_Runs.l0 kq l0 a1 x9_1 t108 y111 (y111.length:Int) x29_1 = some r) ∧ Aside0 (kq ≤ k) ∧ Aside0 (Kd.R k56 56 w' w.heap.size (fun _ => True) v9 x9_1) ∧ Aside0 (Kd.R (Kd.int .i64) 2 w' w.heap.size (fun _ => True) (.slice Ao11 t108.length co11) t108) ∧ Aside0 (Below w.heap.size w w'))
    case atStart => exact ⟨(([]:List (S56))),(0),(by first | rfl | (simp; done) | (simp [*]; done)),H',⟨Nat.le_refl _⟩,⟨by first | exact Kd.R_nil _ _ _ _ _ | exact Kd.N_nil _ _ _ _ _ | exact Kd.V_nil _ _ _ _ _ | exact Kd.Q_nil _ _ _ _ _ | exact Kd.S_nil _ _ _ _ _⟩,⟨by (with_reducible repeat (first | apply Kd.R_alloc | apply Kd.R_drewN | apply Kd.R_drew)); exact HO110.out⟩,⟨by repeat (first | (with_reducible first | exact HB.out | apply below_alloc | apply pw_below_drewN | apply below_drew1) | exact HB.out)⟩⟩
    case round =>
     clear H'
     try clear q1
     try clear p2
     try clear c3
     try clear c5
     try clear c5b0
     try clear p6
     try clear c8
     try clear c8b0
     try clear c8b1
     try clear c9
     try clear c9b0
     try clear c9b1
     try clear q12
     try clear q12
     obtain ⟨x9_1,x29_1,rfl,HA,HK1,HO_9,HO_10,HB⟩:=hrel
     cases gk with
     | zero => exact absurd HA.out (by simp [raster_Runs.l0])
     | succ k1 =>
      have H:=HA.out
      clear HA
      simp only [raster_Runs.l0] at H
      by_cases c13:x29_1 < (y111.length:Int)
      ·rw [if_pos c13] at H
       have c13b0:decide (x29_1 < (y111.length:Int)) = true:=decide_eq_true c13
       clear c13
       by_cases c14:0 ≤ x29_1
       ·rw [if_pos c14] at H
        have c14b0:decide (0 ≤ x29_1) = true:=decide_eq_true c14
        clear c14
        by_cases c15:x29_1 < (y111.length:Int)
        ·rw [if_pos c15] at H
         have c15b0:decide (x29_1 < (y111.length:Int)) = true:=decide_eq_true c15
         clear c15
         replace H:=Option.bind_eq_some_iff.mp H
         obtain ⟨⟨t116,t117⟩,A160,H⟩:=H
         replace H:(if t117 = true then (if (wrap64 ((x9_1.length:Int) - 1)) ≥ 0 then (if 0 ≤ (wrap64 ((x9_1.length:Int) - 1)) then (if (wrap64 ((x9_1.length:Int) - 1)) < (x9_1.length:Int) then (if ((rd_T56 x9_1 (wrap64 ((x9_1.length:Int) - 1))).f2) = t116 then (if ((rd_T56 x9_1 (wrap64 ((x9_1.length:Int) - 1))).f1) = (rd y111 x29_1) then (if 0 ≤ (wrap64 (x29_1 + 1)) then (if (wrap64 (x29_1 + 1)) < (t108.length:Int) then (raster_Runs.l0 k1 l0 a1 (x9_1.set ((wrap64 ((x9_1.length:Int) - 1)):Int).toNat (⟨(rd_T56 x9_1 (wrap64 ((x9_1.length:Int) - 1))).f0,rd t108 (wrap64 (x29_1 + 1)),(rd_T56 x9_1 (wrap64 ((x9_1.length:Int) - 1))).f2⟩:S56)) t108 y111 (y111.length:Int) (wrap64 (x29_1 + 1))) else (none)) else (none)) else (if 0 ≤ (wrap64 (x29_1 + 1)) then (if (wrap64 (x29_1 + 1)) < (t108.length:Int) then (if x9_1.length < 5864062014805 then (raster_Runs.l0 k1 l0 a1 (x9_1 ++ [(⟨rd y111 x29_1,rd t108 (wrap64 (x29_1 + 1)),t116⟩:S56)]) t108 y111 (y111.length:Int) (wrap64 (x29_1 + 1))) else (none)) else (none)) else (none))) else (if 0 ≤ (wrap64 (x29_1 + 1)) then (if (wrap64 (x29_1 + 1)) < (t108.length:Int) then (if x9_1.length < 5864062014805 then (raster_Runs.l0 k1 l0 a1 (x9_1 ++ [(⟨rd y111 x29_1,rd t108 (wrap64 (x29_1 + 1)),t116⟩:S56)]) t108 y111 (y111.length:Int) (wrap64 (x29_1 + 1))) else (none)) else (none)) else (none))) else (none)) else (none)) else (if 0 ≤ (wrap64 (x29_1 + 1)) then (if (wrap64 (x29_1 + 1)) < (t108.length:Int) then (if x9_1.length < 5864062014805 then (raster_Runs.l0 k1 l0 a1 (x9_1 ++ [(⟨rd y111 x29_1,rd t108 (wrap64 (x29_1 + 1)),t116⟩:S56)]) t108 y111 (y111.length:Int) (wrap64 (x29_1 + 1))) else (none)) else (none)) else (none))) else (raster_Runs.l0 k1 l0 a1 x9_1 t108 y111 (y111.length:Int) (wrap64 (x29_1 + 1)))) = some r:=H
         have A16:=Aside0.mk A160
         clear A160
         by_cases c17:t117 = true
         ·subst c17
          have H1:(if (wrap64 ((x9_1.length:Int) - 1)) ≥ 0 then (if 0 ≤ (wrap64 ((x9_1.length:Int) - 1)) then (if (wrap64 ((x9_1.length:Int) - 1)) < (x9_1.length:Int) then (if ((rd_T56 x9_1 (wrap64 ((x9_1.length:Int) - 1))).f2) = t116 then (if ((rd_T56 x9_1 (wrap64 ((x9_1.length:Int) - 1))).f1) = (rd y111 x29_1) then (if 0 ≤ (wrap64 (x29_1 + 1)) then (if (wrap64 (x29_1 + 1)) < (t108.length:Int) then (raster_Runs.l0 k1 l0 a1 (x9_1.set ((wrap64 ((x9_1.length:Int) - 1)):Int).toNat (⟨(rd_T56 x9_1 (wrap64 ((x9_1.length:Int) - 1))).f0,rd t108 (wrap64 (x29_1 + 1)),(rd_T56 x9_1 (wrap64 ((x9_1.length:Int) - 1))).f2⟩:S56)) t108 y111 (y111.length:Int) (wrap64 (x29_1 + 1))) else (none)) else (none)) else (if 0 ≤ (wrap64 (x29_1 + 1)) then (if (wrap64 (x29_1 + 1)) < (t108.length:Int) then (if x9_1.length < 5864062014805 then (raster_Runs.l0 k1 l0 a1 (x9_1 ++ [(⟨rd y111 x29_1,rd t108 (wrap64 (x29_1 + 1)),t116⟩:S56)]) t108 y111 (y111.length:Int) (wrap64 (x29_1 + 1))) else (none)) else (none)) else (none))) else (if 0 ≤ (wrap64 (x29_1 + 1)) then (if (wrap64 (x29_1 + 1)) < (t108.length:Int) then (if x9_1.length < 5864062014805 then (raster_Runs.l0 k1 l0 a1 (x9_1 ++ [(⟨rd y111 x29_1,rd t108 (wrap64 (x29_1 + 1)),t116⟩:S56)]) t108 y111 (y111.length:Int) (wrap64 (x29_1 + 1))) else (none)) else (none)) else (none))) else (none)) else (none)) else (if 0 ≤ (wrap64 (x29_1 + 1)) then (if (wrap64 (x29_1 + 1)) < (t108.length:Int) then (if x9_1.length < 5864062014805 then (raster_Runs.l0 k1 l0 a1 (x9_1 ++ [(⟨rd y111 x29_1,rd t108 (wrap64 (x29_1 + 1)),t116⟩:S56)]) t108 y111 (y111.length:Int) (wrap64 (x29_1 + 1))) else (none)) else (none)) else (none))) = some r:=by rw [if_pos rfl] at H; exact H
          clear H
          have H:=H1
          clear H1
          by_cases c18:(wrap64 ((x9_1.length:Int) - 1)) ≥ 0
          ·rw [if_pos c18] at H
           have c18b0:decide (0 ≤ (wrap64 ((x9_1.length:Int) - 1))) = true:=decide_eq_true c18
           clear c18
           obtain ⟨ji19,hji19⟩:∃ j_:Int,(wrap64 ((x9_1.length:Int) - 1)) = j_:=⟨_,rfl⟩
           replace H:(if 0 ≤ (ji19) then (if (ji19) < (x9_1.length:Int) then (if ((rd_T56 x9_1 (ji19)).f2) = t116 then (if ((rd_T56 x9_1 (ji19)).f1) = (rd y111 x29_1) then (if 0 ≤ (wrap64 (x29_1 + 1)) then (if (wrap64 (x29_1 + 1)) < (t108.length:Int) then (raster_Runs.l0 k1 l0 a1 (x9_1.set ((ji19):Int).toNat (⟨(rd_T56 x9_1 (ji19)).f0,rd t108 (wrap64 (x29_1 + 1)),(rd_T56 x9_1 (ji19)).f2⟩:S56)) t108 y111 (y111.length:Int) (wrap64 (x29_1 + 1))) else (none)) else (none)) else (if 0 ≤ (wrap64 (x29_1 + 1)) then (if (wrap64 (x29_1 + 1)) < (t108.length:Int) then (if x9_1.length < 5864062014805 then (raster_Runs.l0 k1 l0 a1 (x9_1 ++ [(⟨rd y111 x29_1,rd t108 (wrap64 (x29_1 + 1)),t116⟩:S56)]) t108 y111 (y111.length:Int) (wrap64 (x29_1 + 1))) else (none)) else (none)) else (none))) else (if 0 ≤ (wrap64 (x29_1 + 1)) then (if (wrap64 (x29_1 + 1)) < (t108.length:Int) then (if x9_1.length < 5864062014805 then (raster_Runs.l0 k1 l0 a1 (x9_1 ++ [(⟨rd y111 x29_1,rd t108 (wrap64 (x29_1 + 1)),t116⟩:S56)]) t108 y111 (y111.length:Int) (wrap64 (x29_1 + 1))) else (none)) else (none)) else (none))) else (none)) else (none)) = some r:=by first | (rw [hji19] at H; exact H) | (simp only [hji19] at H ⊢; exact H)
           (try rw [hji19] at c18b0)
           (try rw [hji19] at A16)
           have hji19w:(IntKind.i64.wrap ((x9_1.length:Int) - 1)) = ji19:=(i64_w _).trans hji19
           by_cases c20:0 ≤ (ji19)
           ·rw [if_pos c20] at H
            have c20b0:decide (0 ≤ (ji19)) = true:=decide_eq_true c20
            clear c20
            by_cases c21:(ji19) < (x9_1.length:Int)
            ·rw [if_pos c21] at H
             have c21b0:decide ((ji19) < (x9_1.length:Int)) = true:=decide_eq_true c21
             clear c21
             by_cases c22:((rd_T56 x9_1 (ji19)).f2) = t116
             ·rw [if_pos c22] at H
              have c22b0:(((rd_T56 x9_1 (ji19)).f2) == t116) = true:=beq_iff_eq.mpr c22
              have c22b1:(((rd_T56 x9_1 (ji19)).f2) != t116) = false:=bne_eq_false_iff_eq.mpr c22
              clear c22
              by_cases c23:((rd_T56 x9_1 (ji19)).f1) = (rd y111 x29_1)
              ·rw [if_pos c23] at H
               have c23b0:(((rd_T56 x9_1 (ji19)).f1) == (rd y111 x29_1)) = true:=beq_iff_eq.mpr c23
               have c23b1:(((rd_T56 x9_1 (ji19)).f1) != (rd y111 x29_1)) = false:=bne_eq_false_iff_eq.mpr c23
               clear c23
               obtain ⟨ji24,hji24⟩:∃ j_:Int,(wrap64 (x29_1 + 1)) = j_:=⟨_,rfl⟩
               replace H:(if 0 ≤ (ji24) then (if (ji24) < (t108.length:Int) then (raster_Runs.l0 k1 l0 a1 (x9_1.set ((ji19):Int).toNat (⟨(rd_T56 x9_1 (ji19)).f0,rd t108 (ji24),(rd_T56 x9_1 (ji19)).f2⟩:S56)) t108 y111 (y111.length:Int) ji24) else (none)) else (none)) = some r:=by first | (rw [hji24] at H; exact H) | (simp only [hji24] at H ⊢; exact H)
               (try rw [hji24] at A16)
               have hji24w:(IntKind.i64.wrap (x29_1 + 1)) = ji24:=(i64_w _).trans hji24
               by_cases c25:0 ≤ (ji24)
               ·rw [if_pos c25] at H
                have c25b0:decide (0 ≤ (ji24)) = true:=decide_eq_true c25
                clear c25
                by_cases c26:(ji24) < (t108.length:Int)
                ·rw [if_pos c26] at H
                 have c26b0:decide ((ji24) < (t108.length:Int)) = true:=decide_eq_true c26
                 clear c26
                 obtain ⟨y121,hy121⟩:∃ y_:List (S56),y_ = (x9_1.set ((ji19):Int).toNat (⟨(rd_T56 x9_1 (ji19)).f0,rd t108 (ji24),(rd_T56 x9_1 (ji19)).f2⟩:S56)):=⟨_,rfl⟩
                 replace H:(raster_Runs.l0 k1 l0 a1 y121 t108 y111 (y111.length:Int) ji24) = some r:=by first | (rw [hy121]; with_reducible exact H) | (have H2_:=(Option.bind_some _ _).symm.trans H; rw [hy121]; with_reducible exact H2_) | (have H2_:=(Option.bind_some _ _).symm.trans H; with_reducible exact H2_) | with_reducible exact H | (rw [hy121]; exact H) | exact H
                 have Ny121:=Aside0.mk hy121
                 clear hy121
                 have H':=Aside0.mk H
                 clear H
                 have p115:0 ≤ (x29_1:Int):=of_decide_eq_true (by first | (with_reducible assumption) | assumption)
                 have q115:x29_1 < (y111.length:Int):=of_decide_eq_true (by first | (with_reducible assumption) | assumption)
                 have q115c:=rd_cut Ny111.out p115 q115
                 obtain ⟨ad115,e115,hx115_0⟩:=Kd.at_int (Kd.R_reads' HO_10.out).2.2 x29_1 p115 q115c.1
                 cases e115
                 rw [q115c.2] at hx115_0
                 replace p115:=eq_true p115
                 replace q115:=eq_true q115
                 go_wp2_with (first | ((with_reducible refine gate_callee (f:=51) rfl ?_); refine goesL_ (some 38) rfl rfl Try.func51 (by kernel_rfl) rfl #[.slice A0 l0.length c0,.int .i64 (rd y111 x29_1),.int .i64 a1] rfl (by (try simp only [List.map_toArray,List.map_cons,List.map_nil]); first | done | rfl | (simp only [List.length_drop,List.length_take]; rfl)) ?_; (with_reducible refine (owner_Of.calls k1 _ _ l0 (rd y111 x29_1) a1 t116 true _ ?side1 ?side2 A16.out).mono ?_); (case side1 => repeat (first | exact (Kd.C_below HR0.out HB.out) | (with_reducible refine Kd.C_alloc ?_ _) | (with_reducible refine Kd.C_drewN ?_ _) | (with_reducible refine Kd.C_drew ?_))); (case side2 => exact HC0.out); rintro e w28 ⟨rfl,hb⟩; refine ⟨_,rfl,?_⟩; have n0_:=Aside0.mk (Kd.R_below (by (with_reducible repeat (first | apply Kd.R_alloc | apply Kd.R_drewN | apply Kd.R_drew)); exact HO_9.out) hb); have n1_:=Aside0.mk (Kd.R_below (by (with_reducible repeat (first | apply Kd.R_alloc | apply Kd.R_drewN | apply Kd.R_drew)); exact HO_10.out) hb); have n2_:=Aside0.mk (below_step (by repeat (first | (with_reducible first | exact HB.out | apply below_alloc | apply pw_below_drewN | apply below_drew1) | exact HB.out)) hb); clear HO_9; clear HO_10; clear HB; have HO_9:=n0_; have HO_10:=n1_; have HB:=n2_; clear n0_ n1_ n2_; (try clear hb); (try clear hb2); (try clear hk); (try clear hi); obtain ⟨Ao29,co29,eo29⟩:=Kd.R_slice HO_9.out; subst eo29; have p118:0 ≤ ((ji19):Int):=of_decide_eq_true (by first | (with_reducible assumption) | assumption); have q118:(ji19) < (x9_1.length:Int):=of_decide_eq_true (by first | (with_reducible assumption) | assumption); obtain ⟨ad118,e118,hx118_0,hx118_1,hx118_2⟩:=at_T56 (Kd.R_reads' HO_9.out).2.2 (ji19) p118 q118; cases e118; replace p118:=eq_true p118; replace q118:=eq_true q118; have p119:0 ≤ ((ji19):Int):=of_decide_eq_true (by first | (with_reducible assumption) | assumption); have q119:(ji19) < (x9_1.length:Int):=of_decide_eq_true (by first | (with_reducible assumption) | assumption); obtain ⟨ad119,e119,hx119_0,hx119_1,hx119_2⟩:=at_T56 (Kd.R_reads' HO_9.out).2.2 (ji19) p119 q119; obtain rfl:ad118 = ad119:=(by injection e119); replace p119:=eq_true p119; replace q119:=eq_true q119; have p120:0 ≤ ((ji24):Int):=of_decide_eq_true (by first | (with_reducible assumption) | assumption); have q120:(ji24) < (t108.length:Int):=of_decide_eq_true (by first | (with_reducible assumption) | assumption); obtain ⟨ad120,e120,hx120_0⟩:=Kd.at_int (Kd.R_reads' HO_10.out).2.2 (ji24) p120 q120; obtain rfl:ad115 = ad120:=(by injection e120); replace p120:=eq_true p120; replace q120:=eq_true q120; have p27:0 ≤ ((ji19):Int):=of_decide_eq_true (by first | (with_reducible assumption) | assumption); have q27:((ji19):Int) < ((x9_1.length:Int):Int):=of_decide_eq_true (by first | (with_reducible assumption) | assumption); obtain ⟨go27,co27,eo27,gb27,gl27,cl27,HG27⟩:=Kd.R_form HO_9.out (by omega); (first | cases eo27 | (injection eo27 with ea_ en_ ec_; (first | subst ea_ | (injection ea_ with ea_; subst ea_)); subst ec_; clear en_)); have GB27:=Aside0.mk gb27; have GG27:=Aside0.mk HG27; clear gb27 gl27 HG27; (first | simp only [add_plain] at hx118_0 | skip); (first | simp only [add_plain] at hx118_1 | skip); (first | simp only [add_plain] at hx118_2 | skip); (first | simp only [add_plain] at hx119_0 | skip); (first | simp only [add_plain] at hx119_1 | skip); (first | simp only [add_plain] at hx119_2 | skip); obtain ⟨ce27,hcl27,hM27,hcc27,hfr27⟩:=Kd.R_elem HO_9.out z56 ((ji19):Int) p27 q27; obtain rfl:=k56_openM hM27; have hx27_0:w28.cell? ⟨go27,((ji19):Int).toNat * 3,none⟩ = some (.int .i64 ((rd_T56 x9_1 (ji19)).f0)):=hcc27 0 _ rfl; have hx27_1:w28.cell? ⟨go27,((ji19):Int).toNat * 3 + 1,none⟩ = some (.int .i64 ((rd_T56 x9_1 (ji19)).f1)):=hcc27 1 _ rfl; have hx27_2:w28.cell? ⟨go27,((ji19):Int).toNat * 3 + 2,none⟩ = some (.int .i64 ((rd_T56 x9_1 (ji19)).f2)):=hcc27 2 _ rfl; have hf27_0:w28.frozen? ⟨go27,((ji19):Int).toNat * 3,none⟩ = false:=hfr27 0; have hf27_1:w28.frozen? ⟨go27,((ji19):Int).toNat * 3 + 1,none⟩ = false:=hfr27 1; have hf27_2:w28.frozen? ⟨go27,((ji19):Int).toNat * 3 + 2,none⟩ = false:=hfr27 2; clear hcl27 hcc27 hfr27 hM27; replace p27:=eq_true p27; replace q27:=eq_true q27; have HX30:=Aside0.mk (show Kd.R k56 56 w28 w.heap.size (fun _ => True) (.slice (some ⟨go27,0,none⟩) x9_1.length co29) x9_1 from (by (with_reducible repeat (first | apply Kd.R_alloc | apply Kd.R_drewN | apply Kd.R_drew)); exact HO_9.out)); obtain ⟨ce30,hcl30,hM30,hcc30,hfr30⟩:=Kd.R_elem HX30.out z56 ((ji19):Int) (of_decide_eq_true (by first | (with_reducible assumption) | assumption)) (by have h_:((ji19):Int) < ((x9_1.length:Int):Int):=of_decide_eq_true (by first | (with_reducible assumption) | assumption); first | exact h_ | (have e_:=(Kd.R_reads' HO_9.out).1; omega) | simpa using h_); obtain rfl:=k56_openM hM30; have HP30:=Kd.R_seg HX30.out ((ji19):Int) (of_decide_eq_true (by first | (with_reducible assumption) | assumption)) (by have h_:((ji19):Int) < ((x9_1.length:Int):Int):=of_decide_eq_true (by first | (with_reducible assumption) | assumption); first | exact h_ | (have e_:=(Kd.R_reads' HO_9.out).1; omega) | simpa using h_) (seg:=[.int .i64 (rd t108 (ji24))]) (j:=1) hcl30 hcc30 (show 2 ≤ 3 from by decide) (x':=(⟨(rd_T56 x9_1 (ji19)).f0,rd t108 (ji24),(rd_T56 x9_1 (ji19)).f2⟩:S56)) (k56_mkM _ _ _ (⟨(rd_T56 x9_1 (ji19)).f0,rd t108 (ji24),(rd_T56 x9_1 (ji19)).f2⟩:S56) ) (fun _ hk => hk); have hx30_1:=hcc30 1 _ rfl; (try simp only [show (k56).sz = 3 from rfl,Nat.mul_one,Nat.add_zero] at hx30_1); have hf30_1:=hfr30 1; (try simp only [show (k56).sz = 3 from rfl,Nat.mul_one,Nat.add_zero] at hf30_1); clear hcl30 hcc30 hfr30 hM30) | ((with_reducible refine gate_store (t:=2) (p:=74) rfl ?_); refine store_event (t:=2) (p:=74) (v:=?vo_w31) (w1:=(w28.setCell ⟨go27,((ji19):Int).toNat * 3 + 1,none⟩ (.int .i64 (rd t108 (ji24))))) ?hg ?ho ?hn ?hr ?_; (case ho => rfl); (case hg => rfl); (case hn => rfl); (case hr => first | (go_simp; done) | (go_simp; rfl)); intro w31 hw; have hg:w28.grownBy w31 (some go27):=(by rw [hw]; exact HP30.2); have hp_:Kd.R k56 56 w31 w.heap.size (fun _ => True) (.slice (some ⟨go27,0,none⟩) x9_1.length co29) y121:=(by rw [hw,Ny121.out]; exact HP30.1); clear HP30; have n0_:=Aside0.mk (hp_); have n1_:=Aside0.mk (Kd.R_over' (v:=(.slice (some ⟨go27,0,none⟩) x9_1.length co29)) (by (with_reducible repeat (first | apply Kd.R_alloc | apply Kd.R_drewN | apply Kd.R_drew)); exact HO_10.out) (Kd.R_typed HO_9.out) (by decide) hg); have n2_:=Aside0.mk ((by rw [hw]; exact below_set (HB.out) GB27.out:Below w.heap.size w w31)); clear HO_9; clear HO_10; clear HB; have HO_9:=n0_; have HO_10:=n1_; have HB:=n2_; clear n0_ n1_ n2_; clear hg hw hp_))
                 go_roundg k1
                 case measure => have:=HK1.out; omega
                 case rel => exact ⟨(y121),(ji24),(by first | rfl | (simp; done) | (simp only [← hji24] <;> (first | rfl | simp)) | (simp [*]; done)),H',⟨by have:=HK1.out; omega⟩,⟨by (with_reducible repeat (first | apply Kd.R_alloc | apply Kd.R_drewN | apply Kd.R_drew)); exact HO_9.out⟩,⟨by (with_reducible repeat (first | apply Kd.R_alloc | apply Kd.R_drewN | apply Kd.R_drew)); exact HO_10.out⟩,⟨by repeat (first | (with_reducible first | exact HB.out | apply below_alloc | apply pw_below_drewN | apply below_drew1) | exact HB.out)⟩⟩
                ·rw [if_neg c26] at H
                 exact absurd H (by simp)
               ·rw [if_neg c25] at H
                exact absurd H (by simp)
              ·rw [if_neg c23] at H
               have c23b0:(((rd_T56 x9_1 (ji19)).f1) == (rd y111 x29_1)) = false:=beq_eq_false_iff_ne.mpr c23
               have c23b1:(((rd_T56 x9_1 (ji19)).f1) != (rd y111 x29_1)) = true:=bne_iff_ne.mpr c23
               obtain ⟨ji32,hji32⟩:∃ j_:Int,(wrap64 (x29_1 + 1)) = j_:=⟨_,rfl⟩
               replace H:(if 0 ≤ (ji32) then (if (ji32) < (t108.length:Int) then (if x9_1.length < 5864062014805 then (raster_Runs.l0 k1 l0 a1 (x9_1 ++ [(⟨rd y111 x29_1,rd t108 (ji32),t116⟩:S56)]) t108 y111 (y111.length:Int) ji32) else (none)) else (none)) else (none)) = some r:=by first | (rw [hji32] at H; exact H) | (simp only [hji32] at H ⊢; exact H)
               (try rw [hji32] at A16)
               have hji32w:(IntKind.i64.wrap (x29_1 + 1)) = ji32:=(i64_w _).trans hji32
               by_cases c33:0 ≤ (ji32)
               ·rw [if_pos c33] at H
                have c33b0:decide (0 ≤ (ji32)) = true:=decide_eq_true c33
                clear c33
                by_cases c34:(ji32) < (t108.length:Int)
                ·rw [if_pos c34] at H
                 have c34b0:decide ((ji32) < (t108.length:Int)) = true:=decide_eq_true c34
                 clear c34
                 by_cases c35:x9_1.length < 5864062014805
                 ·rw [if_pos c35] at H
                  have LMc35:=Aside0.mk c35
                  clear c35
                  obtain ⟨y123,hy123⟩:∃ y_:List (S56),y_ = (x9_1 ++ [(⟨rd y111 x29_1,rd t108 (ji32),t116⟩:S56)]):=⟨_,rfl⟩
                  replace H:(raster_Runs.l0 k1 l0 a1 y123 t108 y111 (y111.length:Int) ji32) = some r:=by first | (rw [hy123]; with_reducible exact H) | (have H2_:=(Option.bind_some _ _).symm.trans H; rw [hy123]; with_reducible exact H2_) | (have H2_:=(Option.bind_some _ _).symm.trans H; with_reducible exact H2_) | with_reducible exact H | (rw [hy123]; exact H) | exact H
                  have Ny123:=Aside0.mk hy123
                  clear hy123
                  have H':=Aside0.mk H
                  clear H
                  have p115:0 ≤ (x29_1:Int):=of_decide_eq_true (by first | (with_reducible assumption) | assumption)
                  have q115:x29_1 < (y111.length:Int):=of_decide_eq_true (by first | (with_reducible assumption) | assumption)
                  have q115c:=rd_cut Ny111.out p115 q115
                  obtain ⟨ad115,e115,hx115_0⟩:=Kd.at_int (Kd.R_reads' HO_10.out).2.2 x29_1 p115 q115c.1
                  cases e115
                  rw [q115c.2] at hx115_0
                  replace p115:=eq_true p115
                  replace q115:=eq_true q115
                  go_wp2_with (first | ((with_reducible refine gate_callee (f:=51) rfl ?_); refine goesL_ (some 38) rfl rfl Try.func51 (by kernel_rfl) rfl #[.slice A0 l0.length c0,.int .i64 (rd y111 x29_1),.int .i64 a1] rfl (by (try simp only [List.map_toArray,List.map_cons,List.map_nil]); first | done | rfl | (simp only [List.length_drop,List.length_take]; rfl)) ?_; (with_reducible refine (owner_Of.calls k1 _ _ l0 (rd y111 x29_1) a1 t116 true _ ?side1 ?side2 A16.out).mono ?_); (case side1 => repeat (first | exact (Kd.C_below HR0.out HB.out) | (with_reducible refine Kd.C_alloc ?_ _) | (with_reducible refine Kd.C_drewN ?_ _) | (with_reducible refine Kd.C_drew ?_))); (case side2 => exact HC0.out); rintro e w36 ⟨rfl,hb⟩; refine ⟨_,rfl,?_⟩; have n0_:=Aside0.mk (Kd.R_below (by (with_reducible repeat (first | apply Kd.R_alloc | apply Kd.R_drewN | apply Kd.R_drew)); exact HO_9.out) hb); have n1_:=Aside0.mk (Kd.R_below (by (with_reducible repeat (first | apply Kd.R_alloc | apply Kd.R_drewN | apply Kd.R_drew)); exact HO_10.out) hb); have n2_:=Aside0.mk (below_step (by repeat (first | (with_reducible first | exact HB.out | apply below_alloc | apply pw_below_drewN | apply below_drew1) | exact HB.out)) hb); clear HO_9; clear HO_10; clear HB; have HO_9:=n0_; have HO_10:=n1_; have HB:=n2_; clear n0_ n1_ n2_; (try clear hb); (try clear hb2); (try clear hk); (try clear hi); obtain ⟨Ao37,co37,eo37⟩:=Kd.R_slice HO_9.out; subst eo37; have p118:0 ≤ ((ji19):Int):=of_decide_eq_true (by first | (with_reducible assumption) | assumption); have q118:(ji19) < (x9_1.length:Int):=of_decide_eq_true (by first | (with_reducible assumption) | assumption); obtain ⟨ad118,e118,hx118_0,hx118_1,hx118_2⟩:=at_T56 (Kd.R_reads' HO_9.out).2.2 (ji19) p118 q118; cases e118; replace p118:=eq_true p118; replace q118:=eq_true q118; have p119:0 ≤ ((ji19):Int):=of_decide_eq_true (by first | (with_reducible assumption) | assumption); have q119:(ji19) < (x9_1.length:Int):=of_decide_eq_true (by first | (with_reducible assumption) | assumption); obtain ⟨ad119,e119,hx119_0,hx119_1,hx119_2⟩:=at_T56 (Kd.R_reads' HO_9.out).2.2 (ji19) p119 q119; obtain rfl:ad118 = ad119:=(by injection e119); replace p119:=eq_true p119; replace q119:=eq_true q119; have p122:0 ≤ ((ji32):Int):=of_decide_eq_true (by first | (with_reducible assumption) | assumption); have q122:(ji32) < (t108.length:Int):=of_decide_eq_true (by first | (with_reducible assumption) | assumption); obtain ⟨ad122,e122,hx122_0⟩:=Kd.at_int (Kd.R_reads' HO_10.out).2.2 (ji32) p122 q122; obtain rfl:ad115 = ad122:=(by injection e122); replace p122:=eq_true p122; replace q122:=eq_true q122) | ((with_reducible refine gate_builtin (b:=.append) (xs:=#[.tmp 75,.tmp 84]) rfl ?_); at_builtin; refine Kd.R_append k56 (w0:=w) w.heap.size rfl (.tmp 75) (.tmp 84) 53 56 (.agg #[(.int .i64 0),(.int .i64 0),(.int .i64 0)]) 24 rfl Try.underlying53 info56 rfl (by decide) (by omega) (.slice (some ad118) x9_1.length co37) x9_1 (⟨rd y111 x29_1,rd t108 (ji32),t116⟩:S56) [.int .i64 (rd y111 x29_1),.int .i64 (rd t108 (ji32)),.int .i64 t116] (fun _ => True) (fun _ => False) rfl rfl ?aP (fun _ hk => hk.elim) ?aF ?aO ?aB ?aS ?aL ?_; (case aP => exact k56_mkM _ _ _ (⟨rd y111 x29_1,rd t108 (ji32),t116⟩:S56)); (case aB => exact (by repeat (first | (with_reducible first | exact HB.out | apply below_alloc | apply pw_below_drewN | apply below_drew1) | exact HB.out))); (case aF => exact (fun _ _ => trivial)); (case aO => exact (by (with_reducible repeat (first | apply Kd.R_alloc | apply Kd.R_drewN | apply Kd.R_drew)); exact HO_9.out)); (case aS => exact (below_size (by repeat (first | (with_reducible first | exact HB.out | apply below_alloc | apply pw_below_drewN | apply below_drew1) | exact HB.out)))); (case aL => have:=LMc35.out; omega); intro v124 w38 ho hb hg hat; rw [← Ny123.out] at ho; have n0_:=Aside0.mk (Kd.R_over' (by (with_reducible repeat (first | apply Kd.R_alloc | apply Kd.R_drewN | apply Kd.R_drew)); exact HO_10.out) (Kd.R_typed (by (with_reducible repeat (first | apply Kd.R_alloc | apply Kd.R_drewN | apply Kd.R_drew)); exact HO_9.out)) (by decide) hg); have n1_:=Aside0.mk (hb); have n2_:=Aside0.mk (ho); clear HO_10; clear HB; clear HO_9; have HO_10:=n0_; have HB:=n1_; have HO125:=n2_; clear n0_ n1_ n2_; clear ho hb hg hat))
                  go_roundg k1
                  case measure => have:=HK1.out; omega
                  case rel => exact ⟨(y123),(ji32),(by first | rfl | (simp; done) | (simp only [← hji32] <;> (first | rfl | simp)) | (simp [*]; done)),H',⟨by have:=HK1.out; omega⟩,⟨by (with_reducible repeat (first | apply Kd.R_alloc | apply Kd.R_drewN | apply Kd.R_drew)); exact HO125.out⟩,⟨by (with_reducible repeat (first | apply Kd.R_alloc | apply Kd.R_drewN | apply Kd.R_drew)); exact HO_10.out⟩,⟨by repeat (first | (with_reducible first | exact HB.out | apply below_alloc | apply pw_below_drewN | apply below_drew1) | exact HB.out)⟩⟩
                 ·rw [if_neg c35] at H
                  exact absurd H (by simp)
                ·rw [if_neg c34] at H
                 exact absurd H (by simp)
               ·rw [if_neg c33] at H
                exact absurd H (by simp)
             ·rw [if_neg c22] at H
              have c22b0:(((rd_T56 x9_1 (ji19)).f2) == t116) = false:=beq_eq_false_iff_ne.mpr c22
              have c22b1:(((rd_T56 x9_1 (ji19)).f2) != t116) = true:=bne_iff_ne.mpr c22
              obtain ⟨ji39,hji39⟩:∃ j_:Int,(wrap64 (x29_1 + 1)) = j_:=⟨_,rfl⟩
              replace H:(if 0 ≤ (ji39) then (if (ji39) < (t108.length:Int) then (if x9_1.length < 5864062014805 then (raster_Runs.l0 k1 l0 a1 (x9_1 ++ [(⟨rd y111 x29_1,rd t108 (ji39),t116⟩:S56)]) t108 y111 (y111.length:Int) ji39) else (none)) else (none)) else (none)) = some r:=by first | (rw [hji39] at H; exact H) | (simp only [hji39] at H ⊢; exact H)
              (try rw [hji39] at A16)
              have hji39w:(IntKind.i64.wrap (x29_1 + 1)) = ji39:=(i64_w _).trans hji39
              by_cases c40:0 ≤ (ji39)
              ·rw [if_pos c40] at H
               have c40b0:decide (0 ≤ (ji39)) = true:=decide_eq_true c40
               clear c40
               by_cases c41:(ji39) < (t108.length:Int)
               ·rw [if_pos c41] at H
                have c41b0:decide ((ji39) < (t108.length:Int)) = true:=decide_eq_true c41
                clear c41
                by_cases c42:x9_1.length < 5864062014805
                ·rw [if_pos c42] at H
                 have LMc42:=Aside0.mk c42
                 clear c42
                 obtain ⟨y127,hy127⟩:∃ y_:List (S56),y_ = (x9_1 ++ [(⟨rd y111 x29_1,rd t108 (ji39),t116⟩:S56)]):=⟨_,rfl⟩
                 replace H:(raster_Runs.l0 k1 l0 a1 y127 t108 y111 (y111.length:Int) ji39) = some r:=by first | (rw [hy127]; with_reducible exact H) | (have H2_:=(Option.bind_some _ _).symm.trans H; rw [hy127]; with_reducible exact H2_) | (have H2_:=(Option.bind_some _ _).symm.trans H; with_reducible exact H2_) | with_reducible exact H | (rw [hy127]; exact H) | exact H
                 have Ny127:=Aside0.mk hy127
                 clear hy127
                 have H':=Aside0.mk H
                 clear H
                 have p115:0 ≤ (x29_1:Int):=of_decide_eq_true (by first | (with_reducible assumption) | assumption)
                 have q115:x29_1 < (y111.length:Int):=of_decide_eq_true (by first | (with_reducible assumption) | assumption)
                 have q115c:=rd_cut Ny111.out p115 q115
                 obtain ⟨ad115,e115,hx115_0⟩:=Kd.at_int (Kd.R_reads' HO_10.out).2.2 x29_1 p115 q115c.1
                 cases e115
                 rw [q115c.2] at hx115_0
                 replace p115:=eq_true p115
                 replace q115:=eq_true q115
                 go_wp2_with (first | ((with_reducible refine gate_callee (f:=51) rfl ?_); refine goesL_ (some 38) rfl rfl Try.func51 (by kernel_rfl) rfl #[.slice A0 l0.length c0,.int .i64 (rd y111 x29_1),.int .i64 a1] rfl (by (try simp only [List.map_toArray,List.map_cons,List.map_nil]); first | done | rfl | (simp only [List.length_drop,List.length_take]; rfl)) ?_; (with_reducible refine (owner_Of.calls k1 _ _ l0 (rd y111 x29_1) a1 t116 true _ ?side1 ?side2 A16.out).mono ?_); (case side1 => repeat (first | exact (Kd.C_below HR0.out HB.out) | (with_reducible refine Kd.C_alloc ?_ _) | (with_reducible refine Kd.C_drewN ?_ _) | (with_reducible refine Kd.C_drew ?_))); (case side2 => exact HC0.out); rintro e w43 ⟨rfl,hb⟩; refine ⟨_,rfl,?_⟩; have n0_:=Aside0.mk (Kd.R_below (by (with_reducible repeat (first | apply Kd.R_alloc | apply Kd.R_drewN | apply Kd.R_drew)); exact HO_9.out) hb); have n1_:=Aside0.mk (Kd.R_below (by (with_reducible repeat (first | apply Kd.R_alloc | apply Kd.R_drewN | apply Kd.R_drew)); exact HO_10.out) hb); have n2_:=Aside0.mk (below_step (by repeat (first | (with_reducible first | exact HB.out | apply below_alloc | apply pw_below_drewN | apply below_drew1) | exact HB.out)) hb); clear HO_9; clear HO_10; clear HB; have HO_9:=n0_; have HO_10:=n1_; have HB:=n2_; clear n0_ n1_ n2_; (try clear hb); (try clear hb2); (try clear hk); (try clear hi); obtain ⟨Ao44,co44,eo44⟩:=Kd.R_slice HO_9.out; subst eo44; have p118:0 ≤ ((ji19):Int):=of_decide_eq_true (by first | (with_reducible assumption) | assumption); have q118:(ji19) < (x9_1.length:Int):=of_decide_eq_true (by first | (with_reducible assumption) | assumption); obtain ⟨ad118,e118,hx118_0,hx118_1,hx118_2⟩:=at_T56 (Kd.R_reads' HO_9.out).2.2 (ji19) p118 q118; cases e118; replace p118:=eq_true p118; replace q118:=eq_true q118; have p126:0 ≤ ((ji39):Int):=of_decide_eq_true (by first | (with_reducible assumption) | assumption); have q126:(ji39) < (t108.length:Int):=of_decide_eq_true (by first | (with_reducible assumption) | assumption); obtain ⟨ad126,e126,hx126_0⟩:=Kd.at_int (Kd.R_reads' HO_10.out).2.2 (ji39) p126 q126; obtain rfl:ad115 = ad126:=(by injection e126); replace p126:=eq_true p126; replace q126:=eq_true q126) | ((with_reducible refine gate_builtin (b:=.append) (xs:=#[.tmp 75,.tmp 84]) rfl ?_); at_builtin; refine Kd.R_append k56 (w0:=w) w.heap.size rfl (.tmp 75) (.tmp 84) 53 56 (.agg #[(.int .i64 0),(.int .i64 0),(.int .i64 0)]) 24 rfl Try.underlying53 info56 rfl (by decide) (by omega) (.slice (some ad118) x9_1.length co44) x9_1 (⟨rd y111 x29_1,rd t108 (ji39),t116⟩:S56) [.int .i64 (rd y111 x29_1),.int .i64 (rd t108 (ji39)),.int .i64 t116] (fun _ => True) (fun _ => False) rfl rfl ?aP (fun _ hk => hk.elim) ?aF ?aO ?aB ?aS ?aL ?_; (case aP => exact k56_mkM _ _ _ (⟨rd y111 x29_1,rd t108 (ji39),t116⟩:S56)); (case aB => exact (by repeat (first | (with_reducible first | exact HB.out | apply below_alloc | apply pw_below_drewN | apply below_drew1) | exact HB.out))); (case aF => exact (fun _ _ => trivial)); (case aO => exact (by (with_reducible repeat (first | apply Kd.R_alloc | apply Kd.R_drewN | apply Kd.R_drew)); exact HO_9.out)); (case aS => exact (below_size (by repeat (first | (with_reducible first | exact HB.out | apply below_alloc | apply pw_below_drewN | apply below_drew1) | exact HB.out)))); (case aL => have:=LMc42.out; omega); intro v128 w45 ho hb hg hat; rw [← Ny127.out] at ho; have n0_:=Aside0.mk (Kd.R_over' (by (with_reducible repeat (first | apply Kd.R_alloc | apply Kd.R_drewN | apply Kd.R_drew)); exact HO_10.out) (Kd.R_typed (by (with_reducible repeat (first | apply Kd.R_alloc | apply Kd.R_drewN | apply Kd.R_drew)); exact HO_9.out)) (by decide) hg); have n1_:=Aside0.mk (hb); have n2_:=Aside0.mk (ho); clear HO_10; clear HB; clear HO_9; have HO_10:=n0_; have HB:=n1_; have HO129:=n2_; clear n0_ n1_ n2_; clear ho hb hg hat))
                 go_roundg k1
                 case measure => have:=HK1.out; omega
                 case rel => exact ⟨(y127),(ji39),(by first | rfl | (simp; done) | (simp only [← hji39] <;> (first | rfl | simp)) | (simp [*]; done)),H',⟨by have:=HK1.out; omega⟩,⟨by (with_reducible repeat (first | apply Kd.R_alloc | apply Kd.R_drewN | apply Kd.R_drew)); exact HO129.out⟩,⟨by (with_reducible repeat (first | apply Kd.R_alloc | apply Kd.R_drewN | apply Kd.R_drew)); exact HO_10.out⟩,⟨by repeat (first | (with_reducible first | exact HB.out | apply below_alloc | apply pw_below_drewN | apply below_drew1) | exact HB.out)⟩⟩
                ·rw [if_neg c42] at H
                 exact absurd H (by simp)
               ·rw [if_neg c41] at H
                exact absurd H (by simp)
              ·rw [if_neg c40] at H
               exact absurd H (by simp)
            ·rw [if_neg c21] at H
             exact absurd H (by simp)
           ·rw [if_neg c20] at H
            exact absurd H (by simp)
          ·rw [if_neg c18] at H
           have c18b0:decide (0 ≤ (wrap64 ((x9_1.length:Int) - 1))) = false:=decide_eq_false c18
           clear c18
           obtain ⟨ji46,hji46⟩:∃ j_:Int,(wrap64 (x29_1 + 1)) = j_:=⟨_,rfl⟩
           replace H:(if 0 ≤ (ji46) then (if (ji46) < (t108.length:Int) then (if x9_1.length < 5864062014805 then (raster_Runs.l0 k1 l0 a1 (x9_1 ++ [(⟨rd y111 x29_1,rd t108 (ji46),t116⟩:S56)]) t108 y111 (y111.length:Int) ji46) else (none)) else (none)) else (none)) = some r:=by first | (rw [hji46] at H; exact H) | (simp only [hji46] at H ⊢; exact H)
           (try rw [hji46] at A16)
           have hji46w:(IntKind.i64.wrap (x29_1 + 1)) = ji46:=(i64_w _).trans hji46
           by_cases c47:0 ≤ (ji46)
           ·rw [if_pos c47] at H
            have c47b0:decide (0 ≤ (ji46)) = true:=decide_eq_true c47
            clear c47
            by_cases c48:(ji46) < (t108.length:Int)
            ·rw [if_pos c48] at H
             have c48b0:decide ((ji46) < (t108.length:Int)) = true:=decide_eq_true c48
             clear c48
             by_cases c49:x9_1.length < 5864062014805
             ·rw [if_pos c49] at H
              have LMc49:=Aside0.mk c49
              clear c49
              obtain ⟨y131,hy131⟩:∃ y_:List (S56),y_ = (x9_1 ++ [(⟨rd y111 x29_1,rd t108 (ji46),t116⟩:S56)]):=⟨_,rfl⟩
              replace H:(raster_Runs.l0 k1 l0 a1 y131 t108 y111 (y111.length:Int) ji46) = some r:=by first | (rw [hy131]; with_reducible exact H) | (have H2_:=(Option.bind_some _ _).symm.trans H; rw [hy131]; with_reducible exact H2_) | (have H2_:=(Option.bind_some _ _).symm.trans H; with_reducible exact H2_) | with_reducible exact H | (rw [hy131]; exact H) | exact H
              have Ny131:=Aside0.mk hy131
              clear hy131
              have H':=Aside0.mk H
              clear H
              have p115:0 ≤ (x29_1:Int):=of_decide_eq_true (by first | (with_reducible assumption) | assumption)
              have q115:x29_1 < (y111.length:Int):=of_decide_eq_true (by first | (with_reducible assumption) | assumption)
              have q115c:=rd_cut Ny111.out p115 q115
              obtain ⟨ad115,e115,hx115_0⟩:=Kd.at_int (Kd.R_reads' HO_10.out).2.2 x29_1 p115 q115c.1
              cases e115
              rw [q115c.2] at hx115_0
              replace p115:=eq_true p115
              replace q115:=eq_true q115
              go_wp2_with (first | ((with_reducible refine gate_callee (f:=51) rfl ?_); refine goesL_ (some 38) rfl rfl Try.func51 (by kernel_rfl) rfl #[.slice A0 l0.length c0,.int .i64 (rd y111 x29_1),.int .i64 a1] rfl (by (try simp only [List.map_toArray,List.map_cons,List.map_nil]); first | done | rfl | (simp only [List.length_drop,List.length_take]; rfl)) ?_; (with_reducible refine (owner_Of.calls k1 _ _ l0 (rd y111 x29_1) a1 t116 true _ ?side1 ?side2 A16.out).mono ?_); (case side1 => repeat (first | exact (Kd.C_below HR0.out HB.out) | (with_reducible refine Kd.C_alloc ?_ _) | (with_reducible refine Kd.C_drewN ?_ _) | (with_reducible refine Kd.C_drew ?_))); (case side2 => exact HC0.out); rintro e w50 ⟨rfl,hb⟩; refine ⟨_,rfl,?_⟩; have n0_:=Aside0.mk (Kd.R_below (by (with_reducible repeat (first | apply Kd.R_alloc | apply Kd.R_drewN | apply Kd.R_drew)); exact HO_9.out) hb); have n1_:=Aside0.mk (Kd.R_below (by (with_reducible repeat (first | apply Kd.R_alloc | apply Kd.R_drewN | apply Kd.R_drew)); exact HO_10.out) hb); have n2_:=Aside0.mk (below_step (by repeat (first | (with_reducible first | exact HB.out | apply below_alloc | apply pw_below_drewN | apply below_drew1) | exact HB.out)) hb); clear HO_9; clear HO_10; clear HB; have HO_9:=n0_; have HO_10:=n1_; have HB:=n2_; clear n0_ n1_ n2_; (try clear hb); (try clear hb2); (try clear hk); (try clear hi); obtain ⟨Ao51,co51,eo51⟩:=Kd.R_slice HO_9.out; subst eo51; have p130:0 ≤ ((ji46):Int):=of_decide_eq_true (by first | (with_reducible assumption) | assumption); have q130:(ji46) < (t108.length:Int):=of_decide_eq_true (by first | (with_reducible assumption) | assumption); obtain ⟨ad130,e130,hx130_0⟩:=Kd.at_int (Kd.R_reads' HO_10.out).2.2 (ji46) p130 q130; obtain rfl:ad115 = ad130:=(by injection e130); replace p130:=eq_true p130; replace q130:=eq_true q130) | ((with_reducible refine gate_builtin (b:=.append) (xs:=#[.tmp 75,.tmp 84]) rfl ?_); at_builtin; refine Kd.R_append k56 (w0:=w) w.heap.size rfl (.tmp 75) (.tmp 84) 53 56 (.agg #[(.int .i64 0),(.int .i64 0),(.int .i64 0)]) 24 rfl Try.underlying53 info56 rfl (by decide) (by omega) (.slice Ao51 x9_1.length co51) x9_1 (⟨rd y111 x29_1,rd t108 (ji46),t116⟩:S56) [.int .i64 (rd y111 x29_1),.int .i64 (rd t108 (ji46)),.int .i64 t116] (fun _ => True) (fun _ => False) rfl rfl ?aP (fun _ hk => hk.elim) ?aF ?aO ?aB ?aS ?aL ?_; (case aP => exact k56_mkM _ _ _ (⟨rd y111 x29_1,rd t108 (ji46),t116⟩:S56)); (case aB => exact (by repeat (first | (with_reducible first | exact HB.out | apply below_alloc | apply pw_below_drewN | apply below_drew1) | exact HB.out))); (case aF => exact (fun _ _ => trivial)); (case aO => exact (by (with_reducible repeat (first | apply Kd.R_alloc | apply Kd.R_drewN | apply Kd.R_drew)); exact HO_9.out)); (case aS => exact (below_size (by repeat (first | (with_reducible first | exact HB.out | apply below_alloc | apply pw_below_drewN | apply below_drew1) | exact HB.out)))); (case aL => have:=LMc49.out; omega); intro v132 w52 ho hb hg hat; rw [← Ny131.out] at ho; have n0_:=Aside0.mk (Kd.R_over' (by (with_reducible repeat (first | apply Kd.R_alloc | apply Kd.R_drewN | apply Kd.R_drew)); exact HO_10.out) (Kd.R_typed (by (with_reducible repeat (first | apply Kd.R_alloc | apply Kd.R_drewN | apply Kd.R_drew)); exact HO_9.out)) (by decide) hg); have n1_:=Aside0.mk (hb); have n2_:=Aside0.mk (ho); clear HO_10; clear HB; clear HO_9; have HO_10:=n0_; have HB:=n1_; have HO133:=n2_; clear n0_ n1_ n2_; clear ho hb hg hat))
              go_roundg k1
              case measure => have:=HK1.out; omega
              case rel => exact ⟨(y131),(ji46),(by first | rfl | (simp; done) | (simp only [← hji46] <;> (first | rfl | simp)) | (simp [*]; done)),H',⟨by have:=HK1.out; omega⟩,⟨by (with_reducible repeat (first | apply Kd.R_alloc | apply Kd.R_drewN | apply Kd.R_drew)); exact HO133.out⟩,⟨by (with_reducible repeat (first | apply Kd.R_alloc | apply Kd.R_drewN | apply Kd.R_drew)); exact HO_10.out⟩,⟨by repeat (first | (with_reducible first | exact HB.out | apply below_alloc | apply pw_below_drewN | apply below_drew1) | exact HB.out)⟩⟩
             ·rw [if_neg c49] at H
              exact absurd H (by simp)
            ·rw [if_neg c48] at H
             exact absurd H (by simp)
           ·rw [if_neg c47] at H
            exact absurd H (by simp)
         ·replace c17:=Bool.eq_false_iff.mpr c17
          subst c17
          have H1:(raster_Runs.l0 k1 l0 a1 x9_1 t108 y111 (y111.length:Int) (wrap64 (x29_1 + 1))) = some r:=by rw [if_neg (show ¬ (false = true) by decide)] at H; exact H
          clear H
          have H:=H1
          clear H1
          have H':=Aside0.mk H
          clear H
          have p115:0 ≤ (x29_1:Int):=of_decide_eq_true (by first | (with_reducible assumption) | assumption)
          have q115:x29_1 < (y111.length:Int):=of_decide_eq_true (by first | (with_reducible assumption) | assumption)
          have q115c:=rd_cut Ny111.out p115 q115
          obtain ⟨ad115,e115,hx115_0⟩:=Kd.at_int (Kd.R_reads' HO_10.out).2.2 x29_1 p115 q115c.1
          cases e115
          rw [q115c.2] at hx115_0
          replace p115:=eq_true p115
          replace q115:=eq_true q115
          go_wp2_with (first | ((with_reducible refine gate_callee (f:=51) rfl ?_); refine goesL_ (some 38) rfl rfl Try.func51 (by kernel_rfl) rfl #[.slice A0 l0.length c0,.int .i64 (rd y111 x29_1),.int .i64 a1] rfl (by (try simp only [List.map_toArray,List.map_cons,List.map_nil]); first | done | rfl | (simp only [List.length_drop,List.length_take]; rfl)) ?_; (with_reducible refine (owner_Of.calls k1 _ _ l0 (rd y111 x29_1) a1 t116 false _ ?side1 ?side2 A16.out).mono ?_); (case side1 => repeat (first | exact (Kd.C_below HR0.out HB.out) | (with_reducible refine Kd.C_alloc ?_ _) | (with_reducible refine Kd.C_drewN ?_ _) | (with_reducible refine Kd.C_drew ?_))); (case side2 => exact HC0.out); rintro e w53 ⟨rfl,hb⟩; refine ⟨_,rfl,?_⟩; have n0_:=Aside0.mk (Kd.R_below (by (with_reducible repeat (first | apply Kd.R_alloc | apply Kd.R_drewN | apply Kd.R_drew)); exact HO_9.out) hb); have n1_:=Aside0.mk (Kd.R_below (by (with_reducible repeat (first | apply Kd.R_alloc | apply Kd.R_drewN | apply Kd.R_drew)); exact HO_10.out) hb); have n2_:=Aside0.mk (below_step (by repeat (first | (with_reducible first | exact HB.out | apply below_alloc | apply pw_below_drewN | apply below_drew1) | exact HB.out)) hb); clear HO_9; clear HO_10; clear HB; have HO_9:=n0_; have HO_10:=n1_; have HB:=n2_; clear n0_ n1_ n2_; (try clear hb); (try clear hb2); (try clear hk); (try clear hi)))
          go_roundg k1
          case measure => have:=HK1.out; omega
          case rel => exact ⟨(x9_1),(wrap64 (x29_1 + 1)),(by first | rfl | (simp; done) | (simp [*]; done)),H',⟨by have:=HK1.out; omega⟩,⟨by (with_reducible repeat (first | apply Kd.R_alloc | apply Kd.R_drewN | apply Kd.R_drew)); exact HO_9.out⟩,⟨by (with_reducible repeat (first | apply Kd.R_alloc | apply Kd.R_drewN | apply Kd.R_drew)); exact HO_10.out⟩,⟨by repeat (first | (with_reducible first | exact HB.out | apply below_alloc | apply pw_below_drewN | apply below_drew1) | exact HB.out)⟩⟩
        ·rw [if_neg c15] at H
         exact absurd H (by simp)
       ·rw [if_neg c14] at H
        exact absurd H (by simp)
      ·rw [if_neg c13] at H
       have c13b0:decide (x29_1 < (y111.length:Int)) = false:=decide_eq_false c13
       clear c13
       obtain rfl:=Option.some.inj H
       go_wp2
       go_ret
       exact ⟨_,by first | rfl | (simp [errW_none,errW_some] <;> rfl) | (simp only [← hji7]; first | rfl | (simp [errW_none,errW_some] <;> rfl)) | (simp [*,errW_none,errW_some] <;> rfl),by (with_reducible repeat (first | apply Kd.R_alloc | apply Kd.R_drewN | apply Kd.R_drew)); exact HO_9.out,by repeat (first | (with_reducible first | exact HB.out | apply below_alloc | apply pw_below_drewN | apply below_drew1) | exact HB.out)⟩
   ·rw [if_neg c9] at H
    exact absurd H (by simp)
  ·rw [if_neg c8] at H
   exact absurd H (by simp)
def raster_within.f (a0:Int) (a1:Int):Option (Bool):=if a0 ≥ (wrap64 (-a1)) then (some (decide (a0 ≤ a1))) else (some false)
def raster_Grid_right.j0:Nat → Bool → Int → Int → Int → Int → Int → Option (Bool)
 | 0,_,_,_,_,_,_ => none
 | k + 1,x28,x135000,x135001,x135002,x135003,x135004 => if x28 = true then (some false) else (if x135002 ≥ 1 then (if x135002 ≤ 1099511627776 then ((raster_within.f x135000 1099511627776).bind fun t135 => (if t135 = true then ((raster_within.f x135001 1099511627776).bind fun t136 => (some t136)) else (some false))) else (some false)) else (some false))
def raster_Grid_right.f (k:Nat) (a0_0:Int) (a0_1:Int) (a0_2:Int) (a0_3:Int) (a0_4:Int):Option (Bool):=if a0_3 < 1 then (raster_Grid_right.j0 k true a0_0 a0_1 a0_2 a0_3 a0_4) else (if a0_4 < 1 then (raster_Grid_right.j0 k true a0_0 a0_1 a0_2 a0_3 a0_4) else (if a0_3 > 4096 then (raster_Grid_right.j0 k true a0_0 a0_1 a0_2 a0_3 a0_4) else (if a0_4 > 4096 then (raster_Grid_right.j0 k true a0_0 a0_1 a0_2 a0_3 a0_4) else (raster_Grid_right.j0 k (decide ((wrap64 (a0_3 * a0_4)) > 4096)) a0_0 a0_1 a0_2 a0_3 a0_4))))
set_option maxHeartbeats 8000000 in
set_option maxRecDepth 100000 in
open Y in
theorem slim_raster_Grid_right_ {k:Nat} {a0_0:Int} {a0_1:Int} {a0_2:Int} {a0_3:Int} {a0_4:Int} {r:Bool} (h:raster_Grid_right.f k a0_0 a0_1 a0_2 a0_3 a0_4 = some r):((bif decide (a0_3 < 1) then some (MV.val (Value.bool false),[]) else bif decide (a0_4 < 1) then some (MV.val (Value.bool false),[]) else bif decide (a0_3 > 4096) then some (MV.val (Value.bool false),[]) else bif decide (a0_4 > 4096) then some (MV.val (Value.bool false),[]) else bif decide (IntKind.wrap IntKind.i64 (a0_3 * a0_4) > 4096) then some (MV.val (Value.bool false),[]) else bif decide (a0_2 ≥ 1) then bif decide (a0_2 ≤ 1099511627776) then bif decide (a0_0 ≥ IntKind.wrap IntKind.i64 (0 - 1099511627776)) then bif decide (a0_0 ≤ 1099511627776) then bif decide (a0_1 ≥ IntKind.wrap IntKind.i64 (0 - 1099511627776)) then some (MV.val (Value.bool (decide (a0_1 ≤ 1099511627776))),[]) else some (MV.val (Value.bool false),[]) else some (MV.val (Value.bool false),[]) else some (MV.val (Value.bool false),[]) else some (MV.val (Value.bool false),[]) else some (MV.val (Value.bool false),[]):Option Out)) = some (MV.val (.bool r),[]):=by
 cases k with
 | zero => simp only [raster_Grid_right.f,raster_Grid_right.j0,raster_within.f] at h; (repeat' split at h) <;> cases h
 | succ k =>
 refine Eq.trans (b:=(raster_Grid_right.f (k + 1) a0_0 a0_1 a0_2 a0_3 a0_4).map fun q => (MV.val (.bool q),[])) ?_ (by rw [h]; rfl)
 simp only [raster_Grid_right.f,raster_Grid_right.j0,raster_within.f,SlPT.slim_bi,SlPT.slim_mi,Option.bind_some,Option.map_some,Bool.cond_eq_ite,decide_eq_true_eq,beq_iff_eq,bne_iff_ne,ne_eq,ite_not,Bool.and_eq_true,and_true,Bool.false_eq_true,if_false,if_true,i64_w,Bool.not_false,Bool.not_true,Int.zero_sub,Bool.not_eq_true',decide_eq_false_iff_not,Option.map_none] <;> (try simp only [mx,mn]) <;> rfl
theorem raster_Grid_right.calls (k:Nat) (a0_0:Int) (a0_1:Int) (a0_2:Int) (a0_3:Int) (a0_4:Int) (r:Bool) (w:World) (h:raster_Grid_right.f k a0_0 a0_1 a0_2 a0_3 a0_4 = some r) :
  Calls Try.prog 49 #[.agg #[.int .i64 a0_0,.int .i64 a0_1,.int .i64 a0_2,.int .i64 a0_3,.int .i64 a0_4]] w fun e w' => e = .returned (.bool r) ∧ Below w.heap.size w w':=by
 have hx:Y.xfun Try.prog SlPT.E SlPT.C61 3 49 [Y.MV.agg [Y.MV.val (.int .i64 a0_0),Y.MV.val (.int .i64 a0_1),Y.MV.val (.int .i64 a0_2),Y.MV.val (.int .i64 a0_3),Y.MV.val (.int .i64 a0_4)]] [] Y.fin = some (Y.MV.val (.bool r),[]):=by
  rw [SlPT.nf49]
  exact slim_raster_Grid_right_ h
 refine (Y.call_of SlPT.E_ok SlPT.C61_ok (fun _ _ _ => trivial) SlPT.mixed rfl rfl hx w).mono ?_
 rintro e w' ⟨rfl,hB⟩
 exact ⟨rfl,hB⟩
end Go.Proofs.Ytppklhfiajjhmaa.PPT
end
section
namespace Go.Proofs.Ytppklhfiajjhmaa.PPT
open Go.RowKit Go.Proofs.YtppklhfiajjhmaaW.PrintWords Go.Proofs.YtppklhfiajjhmaaW.PrintLast Go.Proofs.YtppklhfiajjhmaaW.PrintMore
attribute [local go_sem] max2_int min2_int max_two min_two max_three min_three max_four min_four   -- for this text's walks alone
set_option linter.unusedVariables false
set_option linter.unusedSimpArgs false
mutual
def raster_Draw.l0:Nat → List (S39) → List Int → Int → Int → Int → Int → Int → Int → Int → Option (List Int × Int)
 | 0,_,_,_,_,_,_,_,_,_ => none
 | k + 1,x0,x6,x17,x18,x138000,x138001,x138002,x138003,x138004 => if x18 < x17 then (if 0 ≤ x138003 then (if (x138003:Int).toNat ≤ 35184372088832 then ((raster_Runs.f k x0 (wrap64 (x138001 + (wrap64 (x18 * x138002)))) x138000 (wrap64 (x138000 + (wrap64 (x138003 * x138002))))).bind fun t142 => (raster_Draw.l1 k x0 x6 (List.replicate (x138003:Int).toNat 0) x17 x18 t142 (t142.length:Int) 0 x138000 x138001 x138002 x138003 x138004)) else (none)) else (none)) else (some (x6,0))
def raster_Draw.l1:Nat → List (S39) → List Int → List Int → Int → Int → List (S56) → Int → Int → Int → Int → Int → Int → Int → Option (List Int × Int)
 | 0,_,_,_,_,_,_,_,_,_,_,_,_,_ => none
 | k + 1,x0,x6,x9,x17,x18,x43,x44,x45,x138000,x138001,x138002,x138003,x138004 => if x45 < x44 then (if 0 ≤ x45 then (if x45 < (x43.length:Int) then (if x138002 = 0 then (none) else (raster_Draw.l2 k x0 x6 x9 (wrap64 (Int.tdiv (wrap64 ((wrap64 ((wrap64 (((rd_T56 x43 x45).f0) - x138000)) + x138002)) - 1)) x138002)) x17 x18 x43 x44 x45 x138000 x138001 x138002 x138003 x138004 ((rd_T56 x43 x45).f0) ((rd_T56 x43 x45).f1) ((rd_T56 x43 x45).f2))) else (none)) else (none)) else (if x6.length + x9.length < 17592186044416 then (raster_Draw.l0 k x0 (x6 ++ x9) x17 (wrap64 (x18 + 1)) x138000 x138001 x138002 x138003 x138004) else (none))
def raster_Draw.l2:Nat → List (S39) → List Int → List Int → Int → Int → Int → List (S56) → Int → Int → Int → Int → Int → Int → Int → Int → Int → Int → Option (List Int × Int)
 | 0,_,_,_,_,_,_,_,_,_,_,_,_,_,_,_,_,_ => none
 | k + 1,x0,x6,x9,x12,x17,x18,x43,x44,x45,x138000,x138001,x138002,x138003,x138004,x150000,x150001,x150002 => if x12 < x138003 then (if (wrap64 (x138000 + (wrap64 (x12 * x138002)))) < x150001 then (if 0 ≤ x150002 then (if x150002 < (x0.length:Int) then (if 0 ≤ x12 then (if x12 < (x9.length:Int) then (raster_Draw.l2 k x0 x6 (x9.set (x12:Int).toNat ((rd_T39 x0 x150002).f5)) (wrap64 (x12 + 1)) x17 x18 x43 x44 x45 x138000 x138001 x138002 x138003 x138004 x150000 x150001 x150002) else (none)) else (none)) else (none)) else (none)) else (raster_Draw.l1 k x0 x6 x9 x17 x18 x43 x44 (wrap64 (x45 + 1)) x138000 x138001 x138002 x138003 x138004)) else (raster_Draw.l1 k x0 x6 x9 x17 x18 x43 x44 (wrap64 (x45 + 1)) x138000 x138001 x138002 x138003 x138004)
end
def raster_Draw.f (k:Nat) (l0:List (S39)) (a1_0:Int) (a1_1:Int) (a1_2:Int) (a1_3:Int) (a1_4:Int):Option (List Int × Int):=(raster_Grid_right.f k a1_0 a1_1 a1_2 a1_3 a1_4).bind fun t138 => (if t138 = true then (raster_Draw.l0 k l0 ([]:List Int) a1_4 0 a1_0 a1_1 a1_2 a1_3 a1_4) else (some (([]:List Int),1)))
set_option maxHeartbeats 8000000 in
set_option maxRecDepth 100000 in
theorem raster_Draw.calls (k:Nat) (A0:Option Addr) (c0:Nat) (l0:List (S39)) (a1_0:Int) (a1_1:Int) (a1_2:Int) (a1_3:Int) (a1_4:Int) (r1:List Int) (r2:Int) (w:World) (hr0:Kd.C k39 w A0 l0.length l0) (hc0:l0.length ≤ c0) (h:raster_Draw.f k l0 a1_0 a1_1 a1_2 a1_3 a1_4 = some (r1,r2)) :
  Calls Try.prog 28 #[.slice A0 l0.length c0,.agg #[.int .i64 a1_0,.int .i64 a1_1,.int .i64 a1_2,.int .i64 a1_3,.int .i64 a1_4]] w fun e w' => ∃ v0_:Value,e = .returned (.tuple #[v0_,.int .i64 r2]) ∧ Kd.R (Kd.int .i64) 2 w' w.heap.size (fun _ => True) v0_ r1 ∧ Below w.heap.size w w':=by
 have hu44:=Try.underlying44
 have hu56:=Try.underlying56
 have HR0:=Aside0.mk hr0
 have HC0:=Aside0.mk hc0
 clear hr0 hc0
 have HB:=Aside0.mk (Below.refl w.heap.size w)
 have H:((raster_Grid_right.f k a1_0 a1_1 a1_2 a1_3 a1_4).bind fun t138 => (if t138 = true then (raster_Draw.l0 k l0 ([]:List Int) a1_4 0 a1_0 a1_1 a1_2 a1_3 a1_4) else (some (([]:List Int),1)))) = some (r1,r2):=h
 clear h
 replace H:=Option.bind_eq_some_iff.mp H
 obtain ⟨t138,A30,H⟩:=H
 replace H:(if t138 = true then (raster_Draw.l0 k l0 ([]:List Int) a1_4 0 a1_0 a1_1 a1_2 a1_3 a1_4) else (some (([]:List Int),1))) = some (r1,r2):=H
 have A3:=Aside0.mk A30
 clear A30
 by_cases c4:t138 = true
 ·subst c4
  have H1:(raster_Draw.l0 k l0 ([]:List Int) a1_4 0 a1_0 a1_1 a1_2 a1_3 a1_4) = some (r1,r2):=by rw [if_pos rfl] at H; exact H
  clear H
  have H:=H1
  clear H1
  have H':=Aside0.mk H
  clear H
  go_enter Try.func28,Try.ntmps28
  go_wp2_with (first | ((with_reducible refine gate_dst (N:=3) rfl ?_); refine box_event ?hg (N:=3) ?hd (cs:=#[.int .i64 a1_0,.int .i64 a1_1,.int .i64 a1_2,.int .i64 a1_3,.int .i64 a1_4]) (t:=44) ?hr ?_; (case hd => rfl); (case hg => rfl); (case hr => first | (go_simp; done) | (go_simp; rfl)); intro gb137 hg w5 hbox hb; have n0_:=Aside0.mk (below_step (by repeat (first | (with_reducible first | exact HB.out | apply below_alloc | apply pw_below_drewN | apply below_drew1) | exact HB.out)) hb); have n1_:=Aside0.mk (hbox); have n2_:=Aside0.mk ((by rw [hg]; exact (below_size (by repeat (first | (with_reducible first | exact HB.out | apply below_alloc | apply pw_below_drewN | apply below_drew1) | exact HB.out))):w.heap.size ≤ gb137)); have n3_:=Aside0.mk ((by rw [hg]; exact (below_size (by repeat (first | (with_reducible first | exact HB.out | apply below_alloc | apply pw_below_drewN | apply below_drew1) | exact HB.out))):w.heap.size ≤ gb137)); clear HB; have HB:=n0_; have BK137:=n1_; have GW137:=n2_; have GE137:=n3_; clear n0_ n1_ n2_ n3_; clear hb hbox hg; have hcz6_0:w5.cell? ⟨gb137,0,none⟩ = some (.int .i64 a1_0):=(blk_cell BK137.out 0).trans rfl; have hcz6_1:w5.cell? ⟨gb137,1,none⟩ = some (.int .i64 a1_1):=(blk_cell BK137.out 1).trans rfl; have hcz6_2:w5.cell? ⟨gb137,2,none⟩ = some (.int .i64 a1_2):=(blk_cell BK137.out 2).trans rfl; have hcz6_3:w5.cell? ⟨gb137,3,none⟩ = some (.int .i64 a1_3):=(blk_cell BK137.out 3).trans rfl; have hcz6_4:w5.cell? ⟨gb137,4,none⟩ = some (.int .i64 a1_4):=(blk_cell BK137.out 4).trans rfl; have hfz6_0:=blk_frozen BK137.out 0; have hfz6_1:=blk_frozen BK137.out 1; have hfz6_2:=blk_frozen BK137.out 2; have hfz6_3:=blk_frozen BK137.out 3; have hfz6_4:=blk_frozen BK137.out 4) | ((with_reducible refine gate_callee (f:=49) rfl ?_); refine goesL_ (some 14) rfl rfl Try.func49 (by kernel_rfl) rfl #[.agg #[.int .i64 a1_0,.int .i64 a1_1,.int .i64 a1_2,.int .i64 a1_3,.int .i64 a1_4]] rfl (by (try simp only [List.map_toArray,List.map_cons,List.map_nil]); first | done | rfl | (simp only [List.length_drop,List.length_take]; rfl)) ?_; (with_reducible refine (raster_Grid_right.calls k a1_0 a1_1 a1_2 a1_3 a1_4 true _ A3.out).mono ?_); rintro e w7 ⟨rfl,hb⟩; refine ⟨_,rfl,?_⟩; have n0_:=Aside0.mk (blk_below (g:=gb137) (o:=.cells #[.int .i64 a1_0,.int .i64 a1_1,.int .i64 a1_2,.int .i64 a1_3,.int .i64 a1_4] 44 (0,0)) (by (with_reducible repeat (first | refine blk_drewN ?_ _ | refine blk_drew ?_ | refine blk_alloc ?_ _)); exact BK137.out) hb); have n1_:=Aside0.mk (below_step (by repeat (first | (with_reducible first | exact HB.out | apply below_alloc | apply pw_below_drewN | apply below_drew1 | refine below_set ?_ GE137.out) | exact HB.out)) hb); clear BK137; clear HB; have BK137:=n0_; have HB:=n1_; clear n0_ n1_; (try clear hb); (try clear hb2); (try clear hk); (try clear hi); have hcz8_0:w7.cell? ⟨gb137,0,none⟩ = some (.int .i64 a1_0):=(blk_cell BK137.out 0).trans rfl; have hcz8_1:w7.cell? ⟨gb137,1,none⟩ = some (.int .i64 a1_1):=(blk_cell BK137.out 1).trans rfl; have hcz8_2:w7.cell? ⟨gb137,2,none⟩ = some (.int .i64 a1_2):=(blk_cell BK137.out 2).trans rfl; have hcz8_3:w7.cell? ⟨gb137,3,none⟩ = some (.int .i64 a1_3):=(blk_cell BK137.out 3).trans rfl; have hcz8_4:w7.cell? ⟨gb137,4,none⟩ = some (.int .i64 a1_4):=(blk_cell BK137.out 4).trans rfl; have hfz8_0:=blk_frozen BK137.out 0; have hfz8_1:=blk_frozen BK137.out 1; have hfz8_2:=blk_frozen BK137.out 2; have hfz8_3:=blk_frozen BK137.out 3; have hfz8_4:=blk_frozen BK137.out 4))
  go_loopg [6,18] k (fun kq v6 v18 w' => ∃ (x6_1:List Int) (x18_1:Int),v18 = .int .i64 x18_1 ∧ Aside0 (raster_Draw.l0 kq l0 x6_1 a1_4 x18_1 a1_0 a1_1 a1_2 a1_3 a1_4 = some (r1,r2)) ∧ Aside0 (kq ≤ k) ∧ Aside0 (Kd.R (Kd.int .i64) 2 w' w.heap.size (fun _ => True) v6 x6_1) ∧ Aside0 (w'.heap[gb137]? = some (.cells #[.int .i64 a1_0,.int .i64 a1_1,.int .i64 a1_2,.int .i64 a1_3,.int .i64 a1_4] 44 (0,0))) ∧ Aside0 (Below w.heap.size w w'))
  case atStart => exact ⟨(([]:List Int)),(0),(by first | rfl | (simp; done) | (simp [*]; done)),H',⟨Nat.le_refl _⟩,⟨by first | exact Kd.R_nil _ _ _ _ _ | exact Kd.N_nil _ _ _ _ _ | exact Kd.V_nil _ _ _ _ _ | exact Kd.Q_nil _ _ _ _ _ | exact Kd.S_nil _ _ _ _ _⟩,⟨by (with_reducible repeat (first | refine blk_drewN ?_ _ | refine blk_drew ?_ | refine blk_alloc ?_ _)); exact BK137.out⟩,⟨by repeat (first | (with_reducible first | exact HB.out | apply below_alloc | apply pw_below_drewN | apply below_drew1 | refine below_set ?_ GE137.out) | exact HB.out)⟩⟩
  case round =>
   clear H'
   try clear c2
   try clear p2
   try clear c4
   try clear hcz6_0
   try clear hcz6_1
   try clear hcz6_2
   try clear hcz6_3
   try clear hcz6_4
   try clear hcz8_0
   try clear hcz8_1
   try clear hcz8_2
   try clear hcz8_3
   try clear hcz8_4
   try clear hfz6_0
   try clear hfz6_1
   try clear hfz6_2
   try clear hfz6_3
   try clear hfz6_4
   try clear hfz8_0
   try clear hfz8_1
   try clear hfz8_2
   try clear hfz8_3
   try clear hfz8_4
   obtain ⟨x6_1,x18_1,rfl,HA,HK1,HO_6,BK137,HB⟩:=hrel
   cases gk with
   | zero => exact absurd HA.out (by simp [raster_Draw.l0])
   | succ k1 =>
    have H:=HA.out
    clear HA
    simp only [raster_Draw.l0] at H
    by_cases c9:x18_1 < a1_4
    ·rw [if_pos c9] at H
     have c9b0:decide (x18_1 < a1_4) = true:=decide_eq_true c9
     clear c9
     by_cases c10:0 ≤ a1_3
     ·rw [if_pos c10] at H
      have c10b0:=eq_true c10
      have c10b1:decide (0 ≤ a1_3) = true:=decide_eq_true c10
      clear c10
      by_cases c11:(a1_3:Int).toNat ≤ 35184372088832
      ·rw [if_pos c11] at H
       have c11b0:=eq_true c11
       have c11b1:decide ((a1_3:Int).toNat ≤ 35184372088832) = true:=decide_eq_true c11
       clear c11
       obtain ⟨y139,hy139⟩:∃ y_:List Int,y_ = (List.replicate (a1_3:Int).toNat 0):=⟨_,rfl⟩
       replace H:((raster_Runs.f k1 l0 (wrap64 (a1_1 + (wrap64 (x18_1 * a1_2)))) a1_0 (wrap64 (a1_0 + (wrap64 (a1_3 * a1_2))))).bind fun t142 => (raster_Draw.l1 k1 l0 x6_1 y139 a1_4 x18_1 t142 (t142.length:Int) 0 a1_0 a1_1 a1_2 a1_3 a1_4)) = some (r1,r2):=by first | (rw [hy139]; with_reducible exact H) | (have H2_:=(Option.bind_some _ _).symm.trans H; rw [hy139]; with_reducible exact H2_) | (have H2_:=(Option.bind_some _ _).symm.trans H; with_reducible exact H2_) | with_reducible exact H | (rw [hy139]; exact H) | exact H
       have Ny139:=Aside0.mk hy139
       clear hy139
       replace H:=Option.bind_eq_some_iff.mp H
       obtain ⟨t142,A120,H⟩:=H
       replace H:(raster_Draw.l1 k1 l0 x6_1 y139 a1_4 x18_1 t142 (t142.length:Int) 0 a1_0 a1_1 a1_2 a1_3 a1_4) = some (r1,r2):=H
       have A12:=Aside0.mk A120
       clear A120
       have H':=Aside0.mk H
       clear H
       have hcz13_0:wr.cell? ⟨gb137,0,none⟩ = some (.int .i64 a1_0):=(blk_cell BK137.out 0).trans rfl
       have hcz13_1:wr.cell? ⟨gb137,1,none⟩ = some (.int .i64 a1_1):=(blk_cell BK137.out 1).trans rfl
       have hcz13_2:wr.cell? ⟨gb137,2,none⟩ = some (.int .i64 a1_2):=(blk_cell BK137.out 2).trans rfl
       have hcz13_3:wr.cell? ⟨gb137,3,none⟩ = some (.int .i64 a1_3):=(blk_cell BK137.out 3).trans rfl
       have hcz13_4:wr.cell? ⟨gb137,4,none⟩ = some (.int .i64 a1_4):=(blk_cell BK137.out 4).trans rfl
       have hfz13_0:=blk_frozen BK137.out 0
       have hfz13_1:=blk_frozen BK137.out 1
       have hfz13_2:=blk_frozen BK137.out 2
       have hfz13_3:=blk_frozen BK137.out 3
       have hfz13_4:=blk_frozen BK137.out 4
       go_wp2_with (first | ((with_reducible refine gate_dst (N:=30) rfl ?_); refine Kd.R_make (Kd.int .i64) _ 2 rfl (N:=30) rfl 47 _ _ rfl a1_3 rfl rfl Try.underlying47 (.int .i64 0) 8 info2 rfl (by decide) (by omega) 0 (ok:=fun _ => True) (okp:=fun _ => True) rfl (fun _ hk => hk) trivial (of_decide_eq_true (by first | (with_reducible assumption) | assumption)) (Nat.le_trans (Nat.mul_le_mul_right _ (of_decide_eq_true (by first | (with_reducible assumption) | assumption):a1_3.toNat ≤ 35184372088832)) (by omega)) (Below.refl _ _) (Nat.le_refl _) ?_; intro v140 w14 ho15 hb hg_ hnew_; clear hg_ hnew_; (first | rw [← Ny139.out] at ho15 | (simp only [Int.reduceToNat] at ho15; rw [← Ny139.out] at ho15)); have n0_:=Aside0.mk (Kd.R_elder' (by (with_reducible repeat (first | apply Kd.R_alloc | apply Kd.R_drewN | apply Kd.R_drew)); exact HO_6.out) (Kd.R_base ho15) hb); have n1_:=Aside0.mk (Kd.R_lower (Kd.R_new' ho15 (Kd.R_lt (by (with_reducible repeat (first | apply Kd.R_alloc | apply Kd.R_drewN | apply Kd.R_drew)); exact HO_6.out))) (below_size (by repeat (first | (with_reducible first | exact HB.out | apply below_alloc | apply pw_below_drewN | apply below_drew1 | refine below_set ?_ GE137.out) | exact HB.out)))); have n2_:=Aside0.mk (blk_below (g:=gb137) (o:=.cells #[.int .i64 a1_0,.int .i64 a1_1,.int .i64 a1_2,.int .i64 a1_3,.int .i64 a1_4] 44 (0,0)) (by (with_reducible repeat (first | refine blk_drewN ?_ _ | refine blk_drew ?_ | refine blk_alloc ?_ _)); exact BK137.out) hb); have n3_:=Aside0.mk (below_step (by repeat (first | (with_reducible first | exact HB.out | apply below_alloc | apply pw_below_drewN | apply below_drew1 | refine below_set ?_ GE137.out) | exact HB.out)) hb); clear HO_6; clear BK137; clear HB; have HO_6:=n0_; have HO141:=n1_; have BK137:=n2_; have HB:=n3_; clear n0_ n1_ n2_ n3_; clear hb ho15; have hcz16_0:w14.cell? ⟨gb137,0,none⟩ = some (.int .i64 a1_0):=(blk_cell BK137.out 0).trans rfl; have hcz16_1:w14.cell? ⟨gb137,1,none⟩ = some (.int .i64 a1_1):=(blk_cell BK137.out 1).trans rfl; have hcz16_2:w14.cell? ⟨gb137,2,none⟩ = some (.int .i64 a1_2):=(blk_cell BK137.out 2).trans rfl; have hcz16_3:w14.cell? ⟨gb137,3,none⟩ = some (.int .i64 a1_3):=(blk_cell BK137.out 3).trans rfl; have hcz16_4:w14.cell? ⟨gb137,4,none⟩ = some (.int .i64 a1_4):=(blk_cell BK137.out 4).trans rfl; have hfz16_0:=blk_frozen BK137.out 0; have hfz16_1:=blk_frozen BK137.out 1; have hfz16_2:=blk_frozen BK137.out 2; have hfz16_3:=blk_frozen BK137.out 3; have hfz16_4:=blk_frozen BK137.out 4) | ((with_reducible refine gate_callee (f:=30) rfl ?_); refine goesL_ (some 43) rfl rfl Try.func30 (by kernel_rfl) rfl #[.slice A0 l0.length c0,.int .i64 (wrap64 (a1_1 + (wrap64 (x18_1 * a1_2)))),.int .i64 a1_0,.int .i64 (wrap64 (a1_0 + (wrap64 (a1_3 * a1_2))))] rfl (by (try simp only [List.map_toArray,List.map_cons,List.map_nil]); first | done | rfl | (simp only [List.length_drop,List.length_take]; rfl)) ?_; (with_reducible refine (raster_Runs.calls k1 _ _ l0 (wrap64 (a1_1 + (wrap64 (x18_1 * a1_2)))) a1_0 (wrap64 (a1_0 + (wrap64 (a1_3 * a1_2)))) t142 _ ?side1 ?side2 A12.out).mono ?_); (case side1 => repeat (first | exact (Kd.C_below HR0.out HB.out) | (with_reducible refine Kd.C_alloc ?_ _) | (with_reducible refine Kd.C_drewN ?_ _) | (with_reducible refine Kd.C_drew ?_))); (case side2 => exact HC0.out); rintro e w17 ⟨v143,rfl,ho0,hb⟩; refine ⟨_,rfl,?_⟩; have n0_:=Aside0.mk (Kd.R_below (by (with_reducible repeat (first | apply Kd.R_alloc | apply Kd.R_drewN | apply Kd.R_drew)); exact HO_6.out) hb); have n1_:=Aside0.mk (Kd.R_below (by (with_reducible repeat (first | apply Kd.R_alloc | apply Kd.R_drewN | apply Kd.R_drew)); exact HO141.out) hb); have n2_:=Aside0.mk (Kd.R_lower ho0 (below_size (by repeat (first | (with_reducible first | exact HB.out | apply below_alloc | apply pw_below_drewN | apply below_drew1 | refine below_set ?_ GE137.out) | exact HB.out)))); have n3_:=Aside0.mk (blk_below (g:=gb137) (o:=.cells #[.int .i64 a1_0,.int .i64 a1_1,.int .i64 a1_2,.int .i64 a1_3,.int .i64 a1_4] 44 (0,0)) (by (with_reducible repeat (first | refine blk_drewN ?_ _ | refine blk_drew ?_ | refine blk_alloc ?_ _)); exact BK137.out) hb); have n4_:=Aside0.mk (below_step (by repeat (first | (with_reducible first | exact HB.out | apply below_alloc | apply pw_below_drewN | apply below_drew1 | refine below_set ?_ GE137.out) | exact HB.out)) hb); clear HO_6; clear HO141; clear BK137; clear HB; have HO_6:=n0_; have HO141:=n1_; have HO144:=n2_; have BK137:=n3_; have HB:=n4_; clear n0_ n1_ n2_ n3_ n4_; (try clear hb); (try clear hb2); (try clear hk); (try clear hi); (try clear ho0); obtain ⟨Ao18,co18,eo18⟩:=Kd.R_slice HO144.out; subst eo18))
       go_loopg [45] k1 (fun kq v45 w' => ∃ (x9_2:List Int) (x45_2:Int),v45 = .int .i64 x45_2 ∧ Aside0 (raster_Draw.l1 kq l0 x6_1 x9_2 a1_4 x18_1 t142 (t142.length:Int) x45_2 a1_0 a1_1 a1_2 a1_3 a1_4 = some (r1,r2)) ∧ Aside0 (kq ≤ k1) ∧ Aside0 (Kd.R (Kd.int .i64) 2 w' w.heap.size (fun k_ => some k_ ≠ (v140:Value).ownBlock) u6 x6_1) ∧ Aside0 (Kd.R (Kd.int .i64) 2 w' w.heap.size (fun k_ => some k_ ≠ (u6:Value).ownBlock) v140 x9_2) ∧ Aside0 (Kd.R k56 56 w' w.heap.size (fun _ => True) (.slice Ao18 t142.length co18) t142) ∧ Aside0 (w'.heap[gb137]? = some (.cells #[.int .i64 a1_0,.int .i64 a1_1,.int .i64 a1_2,.int .i64 a1_3,.int .i64 a1_4] 44 (0,0))) ∧ Aside0 (Below w.heap.size w w'))
       case atStart => exact ⟨(y139),(0),(by first | rfl | (simp; done) | (simp [*]; done)),H',⟨Nat.le_refl _⟩,⟨by (with_reducible repeat (first | apply Kd.R_alloc | apply Kd.R_drewN | apply Kd.R_drew)); exact Kd.R_mono HO_6.out (fun _ hk => hk.2)⟩,⟨by (with_reducible repeat (first | apply Kd.R_alloc | apply Kd.R_drewN | apply Kd.R_drew)); exact Kd.R_mono HO141.out (fun _ hk => hk.2)⟩,⟨by (with_reducible repeat (first | apply Kd.R_alloc | apply Kd.R_drewN | apply Kd.R_drew)); exact HO144.out⟩,⟨by (with_reducible repeat (first | refine blk_drewN ?_ _ | refine blk_drew ?_ | refine blk_alloc ?_ _)); exact BK137.out⟩,⟨by repeat (first | (with_reducible first | exact HB.out | apply below_alloc | apply pw_below_drewN | apply below_drew1 | refine below_set ?_ GE137.out) | exact HB.out)⟩⟩
       case round =>
        clear H'
        try clear c1
        try clear c2
        try clear p2
        try clear c3
        try clear c4
        try clear p6
        try clear c9
        try clear c9b0
        try clear c10
        try clear c10b0
        try clear c10b1
        try clear c11
        try clear c11b0
        try clear c11b1
        try clear hcz13_0
        try clear hcz13_1
        try clear hcz13_2
        try clear hcz13_3
        try clear hcz13_4
        try clear hcz16_0
        try clear hcz16_1
        try clear hcz16_2
        try clear hcz16_3
        try clear hcz16_4
        try clear hcz6_0
        try clear hcz6_1
        try clear hcz6_2
        try clear hcz6_3
        try clear hcz6_4
        try clear hcz8_0
        try clear hcz8_1
        try clear hcz8_2
        try clear hcz8_3
        try clear hcz8_4
        try clear hfz13_0
        try clear hfz13_1
        try clear hfz13_2
        try clear hfz13_3
        try clear hfz13_4
        try clear hfz16_0
        try clear hfz16_1
        try clear hfz16_2
        try clear hfz16_3
        try clear hfz16_4
        try clear hfz6_0
        try clear hfz6_1
        try clear hfz6_2
        try clear hfz6_3
        try clear hfz6_4
        try clear hfz8_0
        try clear hfz8_1
        try clear hfz8_2
        try clear hfz8_3
        try clear hfz8_4
        try clear p2
        obtain ⟨x9_2,x45_2,rfl,HA,HK2,HO_6,HO_9,HO_43,BK137,HB⟩:=hrel
        cases gk with
        | zero => exact absurd HA.out (by simp [raster_Draw.l1])
        | succ k2 =>
         have H:=HA.out
         clear HA
         simp only [raster_Draw.l1] at H
         by_cases c19:x45_2 < (t142.length:Int)
         ·rw [if_pos c19] at H
          have c19b0:decide (x45_2 < (t142.length:Int)) = true:=decide_eq_true c19
          clear c19
          by_cases c20:0 ≤ x45_2
          ·rw [if_pos c20] at H
           have c20b0:decide (0 ≤ x45_2) = true:=decide_eq_true c20
           clear c20
           by_cases c21:x45_2 < (t142.length:Int)
           ·rw [if_pos c21] at H
            have c21b0:decide (x45_2 < (t142.length:Int)) = true:=decide_eq_true c21
            clear c21
            by_cases c22:a1_2 = 0
            ·rw [if_pos c22] at H
             exact absurd H (by simp)
            ·rw [if_neg c22] at H
             have c22b0:(a1_2 == 0) = false:=beq_eq_false_iff_ne.mpr c22
             have c22b1:(a1_2 != 0) = true:=bne_iff_ne.mpr c22
             have H':=Aside0.mk H
             clear H
             have p148:0 ≤ (x45_2:Int):=of_decide_eq_true (by first | (with_reducible assumption) | assumption)
             have q148:x45_2 < (t142.length:Int):=of_decide_eq_true (by first | (with_reducible assumption) | assumption)
             obtain ⟨ad148,e148,hx148_0,hx148_1,hx148_2⟩:=at_T56 (Kd.R_reads' HO_43.out).2.2 x45_2 p148 q148
             cases e148
             replace p148:=eq_true p148
             replace q148:=eq_true q148
             go_wp2_with (first | ((with_reducible refine gate_dst (N:=11) rfl ?_); refine box_event ?hg (N:=11) ?hd (cs:=#[.int .i64 0,.int .i64 0,.int .i64 0]) (t:=56) ?hr ?_; (case hd => rfl); (case hg => rfl); (case hr => first | (go_simp; done) | (go_simp; rfl)); intro gb149 hg w23 hbox hb; have n0_:=Aside0.mk (Kd.R_below (by (with_reducible repeat (first | apply Kd.R_alloc | apply Kd.R_drewN | apply Kd.R_drew)); exact HO_6.out) hb); have n1_:=Aside0.mk (Kd.R_below (by (with_reducible repeat (first | apply Kd.R_alloc | apply Kd.R_drewN | apply Kd.R_drew)); exact HO_9.out) hb); have n2_:=Aside0.mk (Kd.R_below (Kd.R_elderB (by (with_reducible repeat (first | apply Kd.R_alloc | apply Kd.R_drewN | apply Kd.R_drew)); exact HO_43.out) gb149 (Nat.le_of_eq hg.symm)) hb); have n3_:=Aside0.mk (blk_below (g:=gb137) (o:=.cells #[.int .i64 a1_0,.int .i64 a1_1,.int .i64 a1_2,.int .i64 a1_3,.int .i64 a1_4] 44 (0,0)) (by (with_reducible repeat (first | refine blk_drewN ?_ _ | refine blk_drew ?_ | refine blk_alloc ?_ _)); exact BK137.out) hb); have n4_:=Aside0.mk (below_step (by repeat (first | (with_reducible first | exact HB.out | apply below_alloc | apply pw_below_drewN | apply below_drew1 | refine below_set ?_ GE137.out) | exact HB.out)) hb); have n5_:=Aside0.mk (hbox); have n6_:=Aside0.mk ((by rw [hg]; exact (below_size (by repeat (first | (with_reducible first | exact HB.out | apply below_alloc | apply pw_below_drewN | apply below_drew1 | refine below_set ?_ GE137.out) | exact HB.out))):w.heap.size ≤ gb149)); have n7_:=Aside0.mk ((by rw [hg]; exact (below_size (by repeat (first | (with_reducible first | exact HB.out | apply below_alloc | apply pw_below_drewN | apply below_drew1 | refine below_set ?_ GE137.out) | exact HB.out))):w.heap.size ≤ gb149)); have n8_:=Aside0.mk ((by rw [hg]; exact Nat.ne_of_lt (blk_lt (g:=gb137) (o:=.cells #[.int .i64 a1_0,.int .i64 a1_1,.int .i64 a1_2,.int .i64 a1_3,.int .i64 a1_4] 44 (0,0)) (by (with_reducible repeat (first | refine blk_drewN ?_ _ | refine blk_drew ?_ | refine blk_alloc ?_ _)); exact BK137.out)):gb137 ≠ gb149)); have n9_:=Aside0.mk ((by rw [hg]; exact Nat.ne_of_gt (blk_lt (g:=gb137) (o:=.cells #[.int .i64 a1_0,.int .i64 a1_1,.int .i64 a1_2,.int .i64 a1_3,.int .i64 a1_4] 44 (0,0)) (by (with_reducible repeat (first | refine blk_drewN ?_ _ | refine blk_drew ?_ | refine blk_alloc ?_ _)); exact BK137.out)):gb149 ≠ gb137)); clear HO_6; clear HO_9; clear HO_43; clear BK137; clear HB; have HO_6:=n0_; have HO_9:=n1_; have HO_43:=n2_; have BK137:=n3_; have HB:=n4_; have BK149:=n5_; have GW149:=n6_; have GE149:=n7_; have NB137_149:=n8_; have NB149_137:=n9_; clear n0_ n1_ n2_ n3_ n4_ n5_ n6_ n7_ n8_ n9_; clear hb hbox hg; have hnb24:=NB149_137.out; have hnc24:=NB137_149.out; have hcz25_0:w23.cell? ⟨gb149,0,none⟩ = some (.int .i64 0):=(blk_cell BK149.out 0).trans rfl; have hcz25_1:w23.cell? ⟨gb149,1,none⟩ = some (.int .i64 0):=(blk_cell BK149.out 1).trans rfl; have hcz25_2:w23.cell? ⟨gb149,2,none⟩ = some (.int .i64 0):=(blk_cell BK149.out 2).trans rfl; have hfz25_0:=blk_frozen BK149.out 0; have hfz25_1:=blk_frozen BK149.out 1; have hfz25_2:=blk_frozen BK149.out 2; have hcz26_0:w23.cell? ⟨gb137,0,none⟩ = some (.int .i64 a1_0):=(blk_cell BK137.out 0).trans rfl; have hcz26_1:w23.cell? ⟨gb137,1,none⟩ = some (.int .i64 a1_1):=(blk_cell BK137.out 1).trans rfl; have hcz26_2:w23.cell? ⟨gb137,2,none⟩ = some (.int .i64 a1_2):=(blk_cell BK137.out 2).trans rfl; have hcz26_3:w23.cell? ⟨gb137,3,none⟩ = some (.int .i64 a1_3):=(blk_cell BK137.out 3).trans rfl; have hcz26_4:w23.cell? ⟨gb137,4,none⟩ = some (.int .i64 a1_4):=(blk_cell BK137.out 4).trans rfl; have hfz26_0:=blk_frozen BK137.out 0; have hfz26_1:=blk_frozen BK137.out 1; have hfz26_2:=blk_frozen BK137.out 2; have hfz26_3:=blk_frozen BK137.out 3; have hfz26_4:=blk_frozen BK137.out 4))
             go_loopg [12] k2 (fun kq v12 w' => ∃ (x9_3:List Int) (x12_3:Int),v12 = .int .i64 x12_3 ∧ Aside0 (raster_Draw.l2 kq l0 x6_1 x9_3 x12_3 a1_4 x18_1 t142 (t142.length:Int) x45_2 a1_0 a1_1 a1_2 a1_3 a1_4 ((rd_T56 t142 x45_2).f0) ((rd_T56 t142 x45_2).f1) ((rd_T56 t142 x45_2).f2) = some (r1,r2)) ∧ Aside0 (kq ≤ k2) ∧ Aside0 (Kd.R (Kd.int .i64) 2 w' w.heap.size (fun k_ => some k_ ≠ (v140:Value).ownBlock) u6 x6_1) ∧ Aside0 (Kd.R (Kd.int .i64) 2 w' w.heap.size (fun k_ => some k_ ≠ (u6:Value).ownBlock) v140 x9_3) ∧ Aside0 (Kd.R k56 56 w' w.heap.size (fun k_ => k_ ≠ gb149) (.slice (some ad148) t142.length co18) t142) ∧ Aside0 (w'.heap[gb137]? = some (.cells #[.int .i64 a1_0,.int .i64 a1_1,.int .i64 a1_2,.int .i64 a1_3,.int .i64 a1_4] 44 (0,0))) ∧ Aside0 (w'.heap[gb149]? = some (.cells #[.int .i64 ((rd_T56 t142 x45_2).f0),.int .i64 ((rd_T56 t142 x45_2).f1),.int .i64 ((rd_T56 t142 x45_2).f2)] 56 (0,0))) ∧ Aside0 (Below w.heap.size w w'))
             case atStart => exact ⟨(x9_2),(wrap64 (Int.tdiv (wrap64 ((wrap64 ((wrap64 (((rd_T56 t142 x45_2).f0) - a1_0)) + a1_2)) - 1)) a1_2)),(by first | rfl | (simp; done) | (simp [*]; done)),H',⟨Nat.le_refl _⟩,⟨by (with_reducible repeat (first | apply Kd.R_alloc | apply Kd.R_drewN | apply Kd.R_drew)); exact Kd.R_mono (Kd.R_far (p:=⟨gb149,2,none⟩) (Kd.R_far (p:=⟨gb149,1,none⟩) (Kd.R_far (p:=⟨gb149,0,none⟩) (Kd.R_types HO_6.out BK149.out (by decide)) (fun _ hk => hk.2) (.int .i64 ((rd_T56 t142 x45_2).f0))) (fun _ hk => hk.2) (.int .i64 ((rd_T56 t142 x45_2).f1))) (fun _ hk => hk.2) (.int .i64 ((rd_T56 t142 x45_2).f2))) (fun _ hk => hk.1)⟩,⟨by (with_reducible repeat (first | apply Kd.R_alloc | apply Kd.R_drewN | apply Kd.R_drew)); exact Kd.R_mono (Kd.R_far (p:=⟨gb149,2,none⟩) (Kd.R_far (p:=⟨gb149,1,none⟩) (Kd.R_far (p:=⟨gb149,0,none⟩) (Kd.R_types HO_9.out BK149.out (by decide)) (fun _ hk => hk.2) (.int .i64 ((rd_T56 t142 x45_2).f0))) (fun _ hk => hk.2) (.int .i64 ((rd_T56 t142 x45_2).f1))) (fun _ hk => hk.2) (.int .i64 ((rd_T56 t142 x45_2).f2))) (fun _ hk => hk.1)⟩,⟨by (with_reducible repeat (first | apply Kd.R_alloc | apply Kd.R_drewN | apply Kd.R_drew)); exact Kd.R_mono (Kd.R_far (p:=⟨gb149,2,none⟩) (Kd.R_far (p:=⟨gb149,1,none⟩) (Kd.R_far (p:=⟨gb149,0,none⟩) (Kd.R_mono HO_43.out (fun k_ hk => (⟨hk,hk.2⟩:_ ∧ k_ ≠ gb149))) (fun _ hk => hk.2) (.int .i64 ((rd_T56 t142 x45_2).f0))) (fun _ hk => hk.2) (.int .i64 ((rd_T56 t142 x45_2).f1))) (fun _ hk => hk.2) (.int .i64 ((rd_T56 t142 x45_2).f2))) (fun _ hk => hk.1.2)⟩,⟨by (with_reducible repeat (first | refine blk_drewN ?_ _ | refine blk_drew ?_ | refine blk_alloc ?_ _)); refine blk_far ?_ NB137_149.out _; (with_reducible repeat (first | refine blk_drewN ?_ _ | refine blk_drew ?_ | refine blk_alloc ?_ _)); refine blk_far ?_ NB137_149.out _; (with_reducible repeat (first | refine blk_drewN ?_ _ | refine blk_drew ?_ | refine blk_alloc ?_ _)); refine blk_far ?_ NB137_149.out _; (with_reducible repeat (first | refine blk_drewN ?_ _ | refine blk_drew ?_ | refine blk_alloc ?_ _)); exact BK137.out⟩,⟨by (with_reducible repeat (first | refine blk_drewN ?_ _ | refine blk_drew ?_ | refine blk_alloc ?_ _)); refine blk_put (cs:=#[.int .i64 ((rd_T56 t142 x45_2).f0),.int .i64 ((rd_T56 t142 x45_2).f1),.int .i64 0]) ?_ 2 _ rfl; (with_reducible repeat (first | refine blk_drewN ?_ _ | refine blk_drew ?_ | refine blk_alloc ?_ _)); refine blk_put (cs:=#[.int .i64 ((rd_T56 t142 x45_2).f0),.int .i64 0,.int .i64 0]) ?_ 1 _ rfl; (with_reducible repeat (first | refine blk_drewN ?_ _ | refine blk_drew ?_ | refine blk_alloc ?_ _)); refine blk_put (cs:=#[.int .i64 0,.int .i64 0,.int .i64 0]) ?_ 0 _ rfl; (with_reducible repeat (first | refine blk_drewN ?_ _ | refine blk_drew ?_ | refine blk_alloc ?_ _)); exact BK149.out⟩,⟨by repeat (first | (with_reducible first | exact HB.out | apply below_alloc | apply pw_below_drewN | apply below_drew1 | refine below_set ?_ GE137.out | refine below_set ?_ GE149.out) | exact HB.out)⟩⟩
             case round =>
              clear H'
              try clear c1
              try clear p1
              try clear q1
              try clear hx1
              try clear c2
              try clear p2
              try clear c3
              try clear c4
              try clear p6
              try clear c9
              try clear c9b0
              try clear c10
              try clear c10b0
              try clear c10b1
              try clear c11
              try clear c11b0
              try clear c11b1
              try clear p14
              try clear q14
              try clear hx14
              try clear c19
              try clear c19b0
              try clear c20
              try clear c20b0
              try clear c21
              try clear c21b0
              try clear c22
              try clear c22b0
              try clear c22b1
              try clear c24
              try clear hcz13_0
              try clear hcz13_1
              try clear hcz13_2
              try clear hcz13_3
              try clear hcz13_4
              try clear hcz16_0
              try clear hcz16_1
              try clear hcz16_2
              try clear hcz16_3
              try clear hcz16_4
              try clear hcz25_0
              try clear hcz25_1
              try clear hcz25_2
              try clear hcz26_0
              try clear hcz26_1
              try clear hcz26_2
              try clear hcz26_3
              try clear hcz26_4
              try clear hcz6_0
              try clear hcz6_1
              try clear hcz6_2
              try clear hcz6_3
              try clear hcz6_4
              try clear hcz8_0
              try clear hcz8_1
              try clear hcz8_2
              try clear hcz8_3
              try clear hcz8_4
              try clear hfz13_0
              try clear hfz13_1
              try clear hfz13_2
              try clear hfz13_3
              try clear hfz13_4
              try clear hfz16_0
              try clear hfz16_1
              try clear hfz16_2
              try clear hfz16_3
              try clear hfz16_4
              try clear hfz25_0
              try clear hfz25_1
              try clear hfz25_2
              try clear hfz26_0
              try clear hfz26_1
              try clear hfz26_2
              try clear hfz26_3
              try clear hfz26_4
              try clear hfz6_0
              try clear hfz6_1
              try clear hfz6_2
              try clear hfz6_3
              try clear hfz6_4
              try clear hfz8_0
              try clear hfz8_1
              try clear hfz8_2
              try clear hfz8_3
              try clear hfz8_4
              try clear hx148_0
              try clear hx148_1
              try clear hx148_2
              try clear p148
              try clear p2
              try clear p6
              try clear q148
              obtain ⟨x9_3,x12_3,rfl,HA,HK3,HO_6,HO_9,HO_43,BK137,BK149,HB⟩:=hrel
              cases gk with
              | zero => exact absurd HA.out (by simp [raster_Draw.l2])
              | succ k3 =>
               have H:=HA.out
               clear HA
               simp only [raster_Draw.l2] at H
               by_cases c27:x12_3 < a1_3
               ·rw [if_pos c27] at H
                have c27b0:decide (x12_3 < a1_3) = true:=decide_eq_true c27
                clear c27
                by_cases c28:(wrap64 (a1_0 + (wrap64 (x12_3 * a1_2)))) < ((rd_T56 t142 x45_2).f1)
                ·rw [if_pos c28] at H
                 have c28b0:decide ((wrap64 (a1_0 + (wrap64 (x12_3 * a1_2)))) < ((rd_T56 t142 x45_2).f1)) = true:=decide_eq_true c28
                 clear c28
                 by_cases c29:0 ≤ ((rd_T56 t142 x45_2).f2)
                 ·rw [if_pos c29] at H
                  have c29b0:decide (0 ≤ ((rd_T56 t142 x45_2).f2)) = true:=decide_eq_true c29
                  clear c29
                  by_cases c30:((rd_T56 t142 x45_2).f2) < (l0.length:Int)
                  ·rw [if_pos c30] at H
                   have c30b0:decide (((rd_T56 t142 x45_2).f2) < (l0.length:Int)) = true:=decide_eq_true c30
                   clear c30
                   by_cases c31:0 ≤ x12_3
                   ·rw [if_pos c31] at H
                    have c31b0:decide (0 ≤ x12_3) = true:=decide_eq_true c31
                    clear c31
                    by_cases c32:x12_3 < (x9_3.length:Int)
                    ·rw [if_pos c32] at H
                     have c32b0:decide (x12_3 < (x9_3.length:Int)) = true:=decide_eq_true c32
                     clear c32
                     obtain ⟨y151,hy151⟩:∃ y_:List Int,y_ = (x9_3.set (x12_3:Int).toNat ((rd_T39 l0 ((rd_T56 t142 x45_2).f2)).f5)):=⟨_,rfl⟩
                     replace H:(raster_Draw.l2 k3 l0 x6_1 y151 (wrap64 (x12_3 + 1)) a1_4 x18_1 t142 (t142.length:Int) x45_2 a1_0 a1_1 a1_2 a1_3 a1_4 ((rd_T56 t142 x45_2).f0) ((rd_T56 t142 x45_2).f1) ((rd_T56 t142 x45_2).f2)) = some (r1,r2):=by first | (rw [hy151]; with_reducible exact H) | (have H2_:=(Option.bind_some _ _).symm.trans H; rw [hy151]; with_reducible exact H2_) | (have H2_:=(Option.bind_some _ _).symm.trans H; with_reducible exact H2_) | with_reducible exact H | (rw [hy151]; exact H) | exact H
                     have Ny151:=Aside0.mk hy151
                     clear hy151
                     have H':=Aside0.mk H
                     clear H
                     have hnb34:=NB137_149.out
                     have hnc34:=NB149_137.out
                     have hcz35_0:wr.cell? ⟨gb137,0,none⟩ = some (.int .i64 a1_0):=(blk_cell BK137.out 0).trans rfl
                     have hcz35_1:wr.cell? ⟨gb137,1,none⟩ = some (.int .i64 a1_1):=(blk_cell BK137.out 1).trans rfl
                     have hcz35_2:wr.cell? ⟨gb137,2,none⟩ = some (.int .i64 a1_2):=(blk_cell BK137.out 2).trans rfl
                     have hcz35_3:wr.cell? ⟨gb137,3,none⟩ = some (.int .i64 a1_3):=(blk_cell BK137.out 3).trans rfl
                     have hcz35_4:wr.cell? ⟨gb137,4,none⟩ = some (.int .i64 a1_4):=(blk_cell BK137.out 4).trans rfl
                     have hfz35_0:=blk_frozen BK137.out 0
                     have hfz35_1:=blk_frozen BK137.out 1
                     have hfz35_2:=blk_frozen BK137.out 2
                     have hfz35_3:=blk_frozen BK137.out 3
                     have hfz35_4:=blk_frozen BK137.out 4
                     have hcz36_0:wr.cell? ⟨gb149,0,none⟩ = some (.int .i64 ((rd_T56 t142 x45_2).f0)):=(blk_cell BK149.out 0).trans rfl
                     have hcz36_1:wr.cell? ⟨gb149,1,none⟩ = some (.int .i64 ((rd_T56 t142 x45_2).f1)):=(blk_cell BK149.out 1).trans rfl
                     have hcz36_2:wr.cell? ⟨gb149,2,none⟩ = some (.int .i64 ((rd_T56 t142 x45_2).f2)):=(blk_cell BK149.out 2).trans rfl
                     have hfz36_0:=blk_frozen BK149.out 0
                     have hfz36_1:=blk_frozen BK149.out 1
                     have hfz36_2:=blk_frozen BK149.out 2
                     have p150:0 ≤ (((rd_T56 t142 x45_2).f2):Int):=of_decide_eq_true (by first | (with_reducible assumption) | assumption)
                     have q150:((rd_T56 t142 x45_2).f2) < (l0.length:Int):=of_decide_eq_true (by first | (with_reducible assumption) | assumption)
                     obtain ⟨ad150,e150,hx150_0,hx150_1,hx150_2,hx150_3,hx150_4,hx150_5,hx150_6,hx150_7,hx150_8,hx150_9,hx150_10,hx150_11,hx150_12,hx150_13,hx150_14⟩:=at_T39 HR0.out ((rd_T56 t142 x45_2).f2) p150 q150
                     cases e150
                     replace hx150_0:=(HB.out.cell (World.block_lt_of_cell? w _ hx150_0)).trans hx150_0
                     replace hx150_1:=(HB.out.cell (World.block_lt_of_cell? w _ hx150_1)).trans hx150_1
                     replace hx150_2:=(HB.out.cell (World.block_lt_of_cell? w _ hx150_2)).trans hx150_2
                     replace hx150_3:=(HB.out.cell (World.block_lt_of_cell? w _ hx150_3)).trans hx150_3
                     replace hx150_4:=(HB.out.cell (World.block_lt_of_cell? w _ hx150_4)).trans hx150_4
                     replace hx150_5:=(HB.out.cell (World.block_lt_of_cell? w _ hx150_5)).trans hx150_5
                     replace hx150_6:=(HB.out.cell (World.block_lt_of_cell? w _ hx150_6)).trans hx150_6
                     replace hx150_7:=(HB.out.cell (World.block_lt_of_cell? w _ hx150_7)).trans hx150_7
                     replace hx150_8:=(HB.out.cell (World.block_lt_of_cell? w _ hx150_8)).trans hx150_8
                     replace hx150_9:=(HB.out.cell (World.block_lt_of_cell? w _ hx150_9)).trans hx150_9
                     replace hx150_10:=(HB.out.cell (World.block_lt_of_cell? w _ hx150_10)).trans hx150_10
                     replace hx150_11:=(HB.out.cell (World.block_lt_of_cell? w _ hx150_11)).trans hx150_11
                     replace hx150_12:=(HB.out.cell (World.block_lt_of_cell? w _ hx150_12)).trans hx150_12
                     replace hx150_13:=(HB.out.cell (World.block_lt_of_cell? w _ hx150_13)).trans hx150_13
                     replace hx150_14:=(HB.out.cell (World.block_lt_of_cell? w _ hx150_14)).trans hx150_14
                     replace p150:=eq_true p150
                     replace q150:=eq_true q150
                     have p33:0 ≤ (x12_3:Int):=of_decide_eq_true (by first | (with_reducible assumption) | assumption)
                     have q33:(x12_3:Int) < ((x9_3.length:Int):Int):=of_decide_eq_true (by first | (with_reducible assumption) | assumption)
                     obtain ⟨go33,co33,eo33,gb33,gl33,cl33,HG33⟩:=Kd.R_form HO_9.out (by omega)
                     (first | cases eo33 | (injection eo33 with ea_ en_ ec_; (first | subst ea_ | (injection ea_ with ea_; subst ea_)); subst ec_; clear en_))
                     have GB33:=Aside0.mk gb33
                     have GG33:=Aside0.mk HG33
                     clear gb33 gl33 HG33
                     obtain ⟨hx33_0,hf33_0⟩:=Kd.R_celln 0 HO_9.out (x12_3:Int) p33 q33
                     replace p33:=eq_true p33
                     replace q33:=eq_true q33
                     have HP37:=Kd.R_putg HO_9.out (x12_3:Int) ((rd_T39 l0 ((rd_T56 t142 x45_2).f2)).f5)
                     go_wp2_with (first | ((with_reducible refine gate_store (t:=2) (p:=87) rfl ?_); refine store_event (t:=2) (p:=87) (v:=?vo_w38) (w1:=(wr.setCell ⟨go33,(x12_3:Int).toNat,none⟩ (.int .i64 ((rd_T39 l0 ((rd_T56 t142 x45_2).f2)).f5)))) ?hg ?ho ?hn ?hr ?_; (case ho => rfl); (case hg => rfl); (case hn => rfl); (case hr => first | (go_simp; done) | (go_simp; rfl)); intro w38 hw; have hg:wr.grownBy w38 (some go33):=(by rw [hw]; exact HP37.2); have hp_:Kd.R (Kd.int .i64) 2 w38 w.heap.size (fun k_ => some k_ ≠ (u6:Value).ownBlock) (.slice (some ⟨go33,0,none⟩) x9_3.length co33) y151:=(by rw [hw,Ny151.out]; exact HP37.1); clear HP37; have n0_:=Aside0.mk (Kd.R_after (v:=(.slice (some ⟨go33,0,none⟩) x9_3.length co33)) (v1:=(.slice (some ⟨go33,0,none⟩) x9_3.length co33)) (ok:=(fun _ => True)) (by (with_reducible repeat (first | apply Kd.R_alloc | apply Kd.R_drewN | apply Kd.R_drew)); exact Kd.R_mono HO_6.out (fun _ hk => ⟨trivial,hk⟩)) hg (.inl rfl)); have n1_:=Aside0.mk (hp_); have n2_:=Aside0.mk (Kd.R_over' (v:=(.slice (some ⟨go33,0,none⟩) x9_3.length co33)) (by (with_reducible repeat (first | apply Kd.R_alloc | apply Kd.R_drewN | apply Kd.R_drew)); exact HO_43.out) (Kd.R_typed HO_9.out) (by decide) hg); have n3_:=Aside0.mk (blk_grown (g:=gb137) (o:=.cells #[.int .i64 a1_0,.int .i64 a1_1,.int .i64 a1_2,.int .i64 a1_3,.int .i64 a1_4] 44 (0,0)) (by (with_reducible repeat (first | refine blk_drewN ?_ _ | refine blk_drew ?_ | refine blk_alloc ?_ _)); exact BK137.out) hg (Kd.R_ne HO_9.out BK137.out (by decide))); have n4_:=Aside0.mk (blk_grown (g:=gb149) (o:=.cells #[.int .i64 ((rd_T56 t142 x45_2).f0),.int .i64 ((rd_T56 t142 x45_2).f1),.int .i64 ((rd_T56 t142 x45_2).f2)] 56 (0,0)) (by (with_reducible repeat (first | refine blk_drewN ?_ _ | refine blk_drew ?_ | refine blk_alloc ?_ _)); exact BK149.out) hg (Kd.R_ne HO_9.out BK149.out (by decide))); have n5_:=Aside0.mk ((by rw [hw]; exact below_set (HB.out) GB33.out:Below w.heap.size w w38)); clear HO_6; clear HO_9; clear HO_43; clear BK137; clear BK149; clear HB; have HO_6:=n0_; have HO_9:=n1_; have HO_43:=n2_; have BK137:=n3_; have BK149:=n4_; have HB:=n5_; clear n0_ n1_ n2_ n3_ n4_ n5_; clear hg hw hp_))
                     go_roundg k3
                     case measure => have:=HK1.out; have:=HK2.out; have:=HK3.out; omega
                     case rel => exact ⟨(y151),(wrap64 (x12_3 + 1)),(by first | rfl | (simp; done) | (simp [*]; done)),H',⟨by have:=HK1.out; have:=HK2.out; have:=HK3.out; omega⟩,⟨by (with_reducible repeat (first | apply Kd.R_alloc | apply Kd.R_drewN | apply Kd.R_drew)); exact Kd.R_mono HO_6.out (fun _ hk => hk.2)⟩,⟨by (with_reducible repeat (first | apply Kd.R_alloc | apply Kd.R_drewN | apply Kd.R_drew)); exact HO_9.out⟩,⟨by (with_reducible repeat (first | apply Kd.R_alloc | apply Kd.R_drewN | apply Kd.R_drew)); exact HO_43.out⟩,⟨by (with_reducible repeat (first | refine blk_drewN ?_ _ | refine blk_drew ?_ | refine blk_alloc ?_ _)); exact BK137.out⟩,⟨by (with_reducible repeat (first | refine blk_drewN ?_ _ | refine blk_drew ?_ | refine blk_alloc ?_ _)); exact BK149.out⟩,⟨by repeat (first | (with_reducible first | exact HB.out | apply below_alloc | apply pw_below_drewN | apply below_drew1 | refine below_set ?_ GE137.out | refine below_set ?_ GE149.out) | exact HB.out)⟩⟩
                    ·rw [if_neg c32] at H
                     exact absurd H (by simp)
                   ·rw [if_neg c31] at H
                    exact absurd H (by simp)
                  ·rw [if_neg c30] at H
                   exact absurd H (by simp)
                 ·rw [if_neg c29] at H
                  exact absurd H (by simp)
                ·rw [if_neg c28] at H
                 have c28b0:decide ((wrap64 (a1_0 + (wrap64 (x12_3 * a1_2)))) < ((rd_T56 t142 x45_2).f1)) = false:=decide_eq_false c28
                 clear c28
                 have H':=Aside0.mk H
                 clear H
                 have hnb39:=NB137_149.out
                 have hnc39:=NB149_137.out
                 have hcz40_0:wr.cell? ⟨gb137,0,none⟩ = some (.int .i64 a1_0):=(blk_cell BK137.out 0).trans rfl
                 have hcz40_1:wr.cell? ⟨gb137,1,none⟩ = some (.int .i64 a1_1):=(blk_cell BK137.out 1).trans rfl
                 have hcz40_2:wr.cell? ⟨gb137,2,none⟩ = some (.int .i64 a1_2):=(blk_cell BK137.out 2).trans rfl
                 have hcz40_3:wr.cell? ⟨gb137,3,none⟩ = some (.int .i64 a1_3):=(blk_cell BK137.out 3).trans rfl
                 have hcz40_4:wr.cell? ⟨gb137,4,none⟩ = some (.int .i64 a1_4):=(blk_cell BK137.out 4).trans rfl
                 have hfz40_0:=blk_frozen BK137.out 0
                 have hfz40_1:=blk_frozen BK137.out 1
                 have hfz40_2:=blk_frozen BK137.out 2
                 have hfz40_3:=blk_frozen BK137.out 3
                 have hfz40_4:=blk_frozen BK137.out 4
                 have hcz41_0:wr.cell? ⟨gb149,0,none⟩ = some (.int .i64 ((rd_T56 t142 x45_2).f0)):=(blk_cell BK149.out 0).trans rfl
                 have hcz41_1:wr.cell? ⟨gb149,1,none⟩ = some (.int .i64 ((rd_T56 t142 x45_2).f1)):=(blk_cell BK149.out 1).trans rfl
                 have hcz41_2:wr.cell? ⟨gb149,2,none⟩ = some (.int .i64 ((rd_T56 t142 x45_2).f2)):=(blk_cell BK149.out 2).trans rfl
                 have hfz41_0:=blk_frozen BK149.out 0
                 have hfz41_1:=blk_frozen BK149.out 1
                 have hfz41_2:=blk_frozen BK149.out 2
                 go_wp2
                 go_roundg k3
                 case measure => have:=HK1.out; have:=HK2.out; have:=HK3.out; omega
                 case rel => exact ⟨(x9_3),(wrap64 (x45_2 + 1)),(by first | rfl | (simp; done) | (simp [*]; done)),H',⟨by have:=HK1.out; have:=HK2.out; have:=HK3.out; omega⟩,⟨by (with_reducible repeat (first | apply Kd.R_alloc | apply Kd.R_drewN | apply Kd.R_drew)); exact HO_6.out⟩,⟨by (with_reducible repeat (first | apply Kd.R_alloc | apply Kd.R_drewN | apply Kd.R_drew)); exact HO_9.out⟩,⟨by (with_reducible repeat (first | apply Kd.R_alloc | apply Kd.R_drewN | apply Kd.R_drew)); exact Kd.R_mono HO_43.out (fun _ hk => trivial)⟩,⟨by (with_reducible repeat (first | refine blk_drewN ?_ _ | refine blk_drew ?_ | refine blk_alloc ?_ _)); exact BK137.out⟩,⟨by repeat (first | (with_reducible first | exact HB.out | apply below_alloc | apply pw_below_drewN | apply below_drew1 | refine below_set ?_ GE137.out | refine below_set ?_ GE149.out) | exact HB.out)⟩⟩
               ·rw [if_neg c27] at H
                have c27b0:decide (x12_3 < a1_3) = false:=decide_eq_false c27
                clear c27
                have H':=Aside0.mk H
                clear H
                have hnb42:=NB137_149.out
                have hnc42:=NB149_137.out
                have hcz43_0:wr.cell? ⟨gb137,0,none⟩ = some (.int .i64 a1_0):=(blk_cell BK137.out 0).trans rfl
                have hcz43_1:wr.cell? ⟨gb137,1,none⟩ = some (.int .i64 a1_1):=(blk_cell BK137.out 1).trans rfl
                have hcz43_2:wr.cell? ⟨gb137,2,none⟩ = some (.int .i64 a1_2):=(blk_cell BK137.out 2).trans rfl
                have hcz43_3:wr.cell? ⟨gb137,3,none⟩ = some (.int .i64 a1_3):=(blk_cell BK137.out 3).trans rfl
                have hcz43_4:wr.cell? ⟨gb137,4,none⟩ = some (.int .i64 a1_4):=(blk_cell BK137.out 4).trans rfl
                have hfz43_0:=blk_frozen BK137.out 0
                have hfz43_1:=blk_frozen BK137.out 1
                have hfz43_2:=blk_frozen BK137.out 2
                have hfz43_3:=blk_frozen BK137.out 3
                have hfz43_4:=blk_frozen BK137.out 4
                go_wp2
                go_roundg k3
                case measure => have:=HK1.out; have:=HK2.out; have:=HK3.out; omega
                case rel => exact ⟨(x9_3),(wrap64 (x45_2 + 1)),(by first | rfl | (simp; done) | (simp [*]; done)),H',⟨by have:=HK1.out; have:=HK2.out; have:=HK3.out; omega⟩,⟨by (with_reducible repeat (first | apply Kd.R_alloc | apply Kd.R_drewN | apply Kd.R_drew)); exact HO_6.out⟩,⟨by (with_reducible repeat (first | apply Kd.R_alloc | apply Kd.R_drewN | apply Kd.R_drew)); exact HO_9.out⟩,⟨by (with_reducible repeat (first | apply Kd.R_alloc | apply Kd.R_drewN | apply Kd.R_drew)); exact Kd.R_mono HO_43.out (fun _ hk => trivial)⟩,⟨by (with_reducible repeat (first | refine blk_drewN ?_ _ | refine blk_drew ?_ | refine blk_alloc ?_ _)); exact BK137.out⟩,⟨by repeat (first | (with_reducible first | exact HB.out | apply below_alloc | apply pw_below_drewN | apply below_drew1 | refine below_set ?_ GE137.out | refine below_set ?_ GE149.out) | exact HB.out)⟩⟩
           ·rw [if_neg c21] at H
            exact absurd H (by simp)
          ·rw [if_neg c20] at H
           exact absurd H (by simp)
         ·rw [if_neg c19] at H
          have c19b0:decide (x45_2 < (t142.length:Int)) = false:=decide_eq_false c19
          clear c19
          by_cases c44:x6_1.length + x9_2.length < 17592186044416
          ·rw [if_pos c44] at H
           have LMc44:=Aside0.mk c44
           clear c44
           obtain ⟨y145,hy145⟩:∃ y_:List Int,y_ = (x6_1 ++ x9_2):=⟨_,rfl⟩
           replace H:(raster_Draw.l0 k2 l0 y145 a1_4 (wrap64 (x18_1 + 1)) a1_0 a1_1 a1_2 a1_3 a1_4) = some (r1,r2):=by first | (rw [hy145]; with_reducible exact H) | (have H2_:=(Option.bind_some _ _).symm.trans H; rw [hy145]; with_reducible exact H2_) | (have H2_:=(Option.bind_some _ _).symm.trans H; with_reducible exact H2_) | with_reducible exact H | (rw [hy145]; exact H) | exact H
           have Ny145:=Aside0.mk hy145
           clear hy145
           have H':=Aside0.mk H
           clear H
           obtain ⟨Ao46,co46,eo46⟩:=Kd.R_slice HO_9.out
           subst eo46
           go_wp2_with (first | ((with_reducible refine gate_builtin (b:=.append) (xs:=#[.tmp 89,.tmp 90]) rfl ?_); at_builtin; refine Kd.R_append_rows (Kd.int .i64) (w0:=w) w.heap.size rfl (.tmp 89) (.tmp 90) 47 2 (.int .i64 0) 8 rfl Try.underlying47 info2 rfl (by decide) (by omega) u6 x6_1 x9_2 _ _ _ (fun k_ => some k_ ≠ (.slice Ao46 x9_2.length co46:Value).ownBlock) (fun _ => False) rfl rfl ?aO ?aR (fun _ _ h => h) (fun _ h => h.elim) ?aF ?aB ?aS ?aL ?_; (case aR => repeat (first | exact (Kd.R_reads' HO_9.out).2.2 | (with_reducible refine Kd.C_alloc ?_ _) | (with_reducible refine Kd.C_drewN ?_ _) | (with_reducible refine Kd.C_drew ?_))); (case aB => exact (by repeat (first | (with_reducible first | exact HB.out | apply below_alloc | apply pw_below_drewN | apply below_drew1 | refine below_set ?_ GE137.out) | exact HB.out))); (case aF => exact (fun k_ hk => Kd.fresh' (Kd.R_lt (by (with_reducible repeat (first | apply Kd.R_alloc | apply Kd.R_drewN | apply Kd.R_drew)); exact HO_9.out)) k_ hk)); (case aO => exact (by (with_reducible repeat (first | apply Kd.R_alloc | apply Kd.R_drewN | apply Kd.R_drew)); exact HO_6.out)); (case aS => exact (below_size (by repeat (first | (with_reducible first | exact HB.out | apply below_alloc | apply pw_below_drewN | apply below_drew1 | refine below_set ?_ GE137.out) | exact HB.out)))); (case aL => have:=LMc44.out; omega); intro v146 w45 ho hb hg hat; rw [← Ny145.out] at ho; have n0_:=Aside0.mk (Kd.R_after (ok:=(fun _ => True)) (by (with_reducible repeat (first | apply Kd.R_alloc | apply Kd.R_drewN | apply Kd.R_drew)); exact Kd.R_mono HO_9.out (fun _ hk => ⟨trivial,hk⟩)) hg hat); have n1_:=Aside0.mk (Kd.R_over' (by (with_reducible repeat (first | apply Kd.R_alloc | apply Kd.R_drewN | apply Kd.R_drew)); exact HO_43.out) (Kd.R_typed (by (with_reducible repeat (first | apply Kd.R_alloc | apply Kd.R_drewN | apply Kd.R_drew)); exact HO_6.out)) (by decide) hg); have n2_:=Aside0.mk (blk_grown (g:=gb137) (o:=.cells #[.int .i64 a1_0,.int .i64 a1_1,.int .i64 a1_2,.int .i64 a1_3,.int .i64 a1_4] 44 (0,0)) (by (with_reducible repeat (first | refine blk_drewN ?_ _ | refine blk_drew ?_ | refine blk_alloc ?_ _)); exact BK137.out) hg (Kd.R_ne HO_6.out BK137.out (by decide))); have n3_:=Aside0.mk (hb); have n4_:=Aside0.mk (ho); clear HO_9; clear HO_43; clear BK137; clear HB; clear HO_6; have HO_9:=n0_; have HO_43:=n1_; have BK137:=n2_; have HB:=n3_; have HO147:=n4_; clear n0_ n1_ n2_ n3_ n4_; clear ho hb hg hat))
           go_roundg k2
           case measure => have:=HK1.out; have:=HK2.out; omega
           case rel => exact ⟨(y145),(wrap64 (x18_1 + 1)),(by first | rfl | (simp; done) | (simp [*]; done)),H',⟨by have:=HK1.out; have:=HK2.out; omega⟩,⟨by (with_reducible repeat (first | apply Kd.R_alloc | apply Kd.R_drewN | apply Kd.R_drew)); exact Kd.R_mono HO147.out (fun _ hk => trivial)⟩,⟨by (with_reducible repeat (first | refine blk_drewN ?_ _ | refine blk_drew ?_ | refine blk_alloc ?_ _)); exact BK137.out⟩,⟨by repeat (first | (with_reducible first | exact HB.out | apply below_alloc | apply pw_below_drewN | apply below_drew1 | refine below_set ?_ GE137.out) | exact HB.out)⟩⟩
          ·rw [if_neg c44] at H
           exact absurd H (by simp)
      ·rw [if_neg c11] at H
       exact absurd H (by simp)
     ·rw [if_neg c10] at H
      exact absurd H (by simp)
    ·rw [if_neg c9] at H
     have c9b0:decide (x18_1 < a1_4) = false:=decide_eq_false c9
     clear c9
     simp only [Option.some.injEq,Prod.mk.injEq] at H
     obtain ⟨rfl,rfl⟩:=H
     go_wp2
     go_ret2
     exact ⟨_,by first | rfl | (simp [errW_none,errW_some] <;> rfl) | (simp [*,errW_none,errW_some] <;> rfl),by (with_reducible repeat (first | apply Kd.R_alloc | apply Kd.R_drewN | apply Kd.R_drew)); exact HO_6.out,by repeat (first | (with_reducible first | exact HB.out | apply below_alloc | apply pw_below_drewN | apply below_drew1 | refine below_set ?_ GE137.out) | exact HB.out)⟩
 ·replace c4:=Bool.eq_false_iff.mpr c4
  subst c4
  have H1:(some (([]:List Int),1)) = some (r1,r2):=by rw [if_neg (show ¬ (false = true) by decide)] at H; exact H
  clear H
  have H:=H1
  clear H1
  simp only [Option.some.injEq,Prod.mk.injEq] at H
  obtain ⟨rfl,rfl⟩:=H
  go_enter Try.func28,Try.ntmps28
  go_wp2_with (first | ((with_reducible refine gate_dst (N:=3) rfl ?_); refine box_event ?hg (N:=3) ?hd (cs:=#[.int .i64 a1_0,.int .i64 a1_1,.int .i64 a1_2,.int .i64 a1_3,.int .i64 a1_4]) (t:=44) ?hr ?_; (case hd => rfl); (case hg => rfl); (case hr => first | (go_simp; done) | (go_simp; rfl)); intro gb137 hg w47 hbox hb; have n0_:=Aside0.mk (below_step (by repeat (first | (with_reducible first | exact HB.out | apply below_alloc | apply pw_below_drewN | apply below_drew1) | exact HB.out)) hb); have n1_:=Aside0.mk (hbox); have n2_:=Aside0.mk ((by rw [hg]; exact (below_size (by repeat (first | (with_reducible first | exact HB.out | apply below_alloc | apply pw_below_drewN | apply below_drew1) | exact HB.out))):w.heap.size ≤ gb137)); have n3_:=Aside0.mk ((by rw [hg]; exact (below_size (by repeat (first | (with_reducible first | exact HB.out | apply below_alloc | apply pw_below_drewN | apply below_drew1) | exact HB.out))):w.heap.size ≤ gb137)); clear HB; have HB:=n0_; have BK137:=n1_; have GW137:=n2_; have GE137:=n3_; clear n0_ n1_ n2_ n3_; clear hb hbox hg; have hcz48_0:w47.cell? ⟨gb137,0,none⟩ = some (.int .i64 a1_0):=(blk_cell BK137.out 0).trans rfl; have hcz48_1:w47.cell? ⟨gb137,1,none⟩ = some (.int .i64 a1_1):=(blk_cell BK137.out 1).trans rfl; have hcz48_2:w47.cell? ⟨gb137,2,none⟩ = some (.int .i64 a1_2):=(blk_cell BK137.out 2).trans rfl; have hcz48_3:w47.cell? ⟨gb137,3,none⟩ = some (.int .i64 a1_3):=(blk_cell BK137.out 3).trans rfl; have hcz48_4:w47.cell? ⟨gb137,4,none⟩ = some (.int .i64 a1_4):=(blk_cell BK137.out 4).trans rfl; have hfz48_0:=blk_frozen BK137.out 0; have hfz48_1:=blk_frozen BK137.out 1; have hfz48_2:=blk_frozen BK137.out 2; have hfz48_3:=blk_frozen BK137.out 3; have hfz48_4:=blk_frozen BK137.out 4) | ((with_reducible refine gate_callee (f:=49) rfl ?_); refine goesL_ (some 14) rfl rfl Try.func49 (by kernel_rfl) rfl #[.agg #[.int .i64 a1_0,.int .i64 a1_1,.int .i64 a1_2,.int .i64 a1_3,.int .i64 a1_4]] rfl (by (try simp only [List.map_toArray,List.map_cons,List.map_nil]); first | done | rfl | (simp only [List.length_drop,List.length_take]; rfl)) ?_; (with_reducible refine (raster_Grid_right.calls k a1_0 a1_1 a1_2 a1_3 a1_4 false _ A3.out).mono ?_); rintro e w49 ⟨rfl,hb⟩; refine ⟨_,rfl,?_⟩; have n0_:=Aside0.mk (blk_below (g:=gb137) (o:=.cells #[.int .i64 a1_0,.int .i64 a1_1,.int .i64 a1_2,.int .i64 a1_3,.int .i64 a1_4] 44 (0,0)) (by (with_reducible repeat (first | refine blk_drewN ?_ _ | refine blk_drew ?_ | refine blk_alloc ?_ _)); exact BK137.out) hb); have n1_:=Aside0.mk (below_step (by repeat (first | (with_reducible first | exact HB.out | apply below_alloc | apply pw_below_drewN | apply below_drew1 | refine below_set ?_ GE137.out) | exact HB.out)) hb); clear BK137; clear HB; have BK137:=n0_; have HB:=n1_; clear n0_ n1_; (try clear hb); (try clear hb2); (try clear hk); (try clear hi)))
  go_ret2
  exact ⟨_,by first | rfl | (simp [errW_none,errW_some] <;> rfl) | (simp [*,errW_none,errW_some] <;> rfl),by first | exact Kd.R_nil _ _ _ _ _ | exact Kd.N_nil _ _ _ _ _ | exact Kd.V_nil _ _ _ _ _ | exact Kd.Q_nil _ _ _ _ _ | exact Kd.S_nil _ _ _ _ _,by repeat (first | (with_reducible first | exact HB.out | apply below_alloc | apply pw_below_drewN | apply below_drew1 | refine below_set ?_ GE137.out) | exact HB.out)⟩
def rect_Empty.f (a0_0:Int) (a0_1:Int) (a0_2:Int) (a0_3:Int):Option (Bool):=if a0_0 ≥ a0_2 then (some true) else (some (decide (a0_1 ≥ a0_3)))
set_option maxHeartbeats 8000000 in
set_option maxRecDepth 100000 in
open Y in
theorem slim_rect_Empty_ {a0_0:Int} {a0_1:Int} {a0_2:Int} {a0_3:Int} {r:Bool} (h:rect_Empty.f a0_0 a0_1 a0_2 a0_3 = some r):((bif decide (a0_0 ≥ a0_2) then some (MV.val (Value.bool true),[]) else some (MV.val (Value.bool (decide (a0_1 ≥ a0_3))),[]):Option Out)) = some (MV.val (.bool r),[]):=by
 refine Eq.trans (b:=(rect_Empty.f a0_0 a0_1 a0_2 a0_3).map fun q => (MV.val (.bool q),[])) ?_ (by rw [h]; rfl)
 simp only [rect_Empty.f,SlPT.slim_bi,SlPT.slim_mi,Option.bind_some,Option.map_some,Bool.cond_eq_ite,decide_eq_true_eq,beq_iff_eq,bne_iff_ne,ne_eq,ite_not,Bool.and_eq_true,and_true,Bool.false_eq_true,if_false,if_true,i64_w,Bool.not_false,Bool.not_true,Int.zero_sub,Bool.not_eq_true',decide_eq_false_iff_not,Option.map_none] <;> (try simp only [mx,mn]) <;> rfl
theorem rect_Empty.calls (a0_0:Int) (a0_1:Int) (a0_2:Int) (a0_3:Int) (r:Bool) (w:World) (h:rect_Empty.f a0_0 a0_1 a0_2 a0_3 = some r) :
  Calls Try.prog 55 #[.agg #[.int .i64 a0_0,.int .i64 a0_1,.int .i64 a0_2,.int .i64 a0_3]] w fun e w' => e = .returned (.bool r) ∧ Below w.heap.size w w':=by
 have hx:Y.xfun Try.prog SlPT.E SlPT.C49 3 55 [Y.MV.agg [Y.MV.val (.int .i64 a0_0),Y.MV.val (.int .i64 a0_1),Y.MV.val (.int .i64 a0_2),Y.MV.val (.int .i64 a0_3)]] [] Y.fin = some (Y.MV.val (.bool r),[]):=by
  rw [SlPT.nf55]
  exact slim_rect_Empty_ h
 refine (Y.call_of SlPT.E_ok SlPT.C49_ok (fun _ _ _ => trivial) SlPT.mixed rfl rfl hx w).mono ?_
 rintro e w' ⟨rfl,hB⟩
 exact ⟨rfl,hB⟩
def rect_Meet.f (a0_0:Int) (a0_1:Int) (a0_2:Int) (a0_3:Int) (a1_0:Int) (a1_1:Int) (a1_2:Int) (a1_3:Int):Option (Int × Int × Int × Int):=(rect_Empty.f (mx a0_0 a1_0) (mx a0_1 a1_1) (mn a0_2 a1_2) (mn a0_3 a1_3)).bind fun t157 => (if t157 = true then (some (0,0,0,0)) else (some (mx a0_0 a1_0,mx a0_1 a1_1,mn a0_2 a1_2,mn a0_3 a1_3)))
set_option maxHeartbeats 8000000 in
set_option maxRecDepth 100000 in
open Y in
theorem slim_rect_Meet_ {a0_0:Int} {a0_1:Int} {a0_2:Int} {a0_3:Int} {a1_0:Int} {a1_1:Int} {a1_2:Int} {a1_3:Int} {r1:Int} {r2:Int} {r3:Int} {r4:Int} (h:rect_Meet.f a0_0 a0_1 a0_2 a0_3 a1_0 a1_1 a1_2 a1_3 = some (r1,r2,r3,r4)):((bif decide ((if a0_0 < a1_0 then a1_0 else a0_0) ≥ if a1_2 < a0_2 then a1_2 else a0_2) then some (MV.agg [MV.val (Value.int IntKind.i64 0),MV.val (Value.int IntKind.i64 0),MV.val (Value.int IntKind.i64 0),MV.val (Value.int IntKind.i64 0)],[]) else bif decide ((if a0_1 < a1_1 then a1_1 else a0_1) ≥ if a1_3 < a0_3 then a1_3 else a0_3) then some (MV.agg [MV.val (Value.int IntKind.i64 0),MV.val (Value.int IntKind.i64 0),MV.val (Value.int IntKind.i64 0),MV.val (Value.int IntKind.i64 0)],[]) else some (MV.agg [MV.val (Value.int IntKind.i64 (if a0_0 < a1_0 then a1_0 else a0_0)),MV.val (Value.int IntKind.i64 (if a0_1 < a1_1 then a1_1 else a0_1)),MV.val (Value.int IntKind.i64 (if a1_2 < a0_2 then a1_2 else a0_2)),MV.val (Value.int IntKind.i64 (if a1_3 < a0_3 then a1_3 else a0_3))],[]):Option Out)) = some (MV.agg [MV.val (.int .i64 r1),MV.val (.int .i64 r2),MV.val (.int .i64 r3),MV.val (.int .i64 r4)],[]):=by
 refine Eq.trans (b:=(rect_Meet.f a0_0 a0_1 a0_2 a0_3 a1_0 a1_1 a1_2 a1_3).map fun q => (MV.agg [MV.val (.int .i64 q.1),MV.val (.int .i64 q.2.1),MV.val (.int .i64 q.2.2.1),MV.val (.int .i64 q.2.2.2)],[])) ?_ (by rw [h]; rfl)
 simp only [rect_Meet.f,rect_Empty.f,SlPT.slim_bi,SlPT.slim_mi,Option.bind_some,Option.map_some,Bool.cond_eq_ite,decide_eq_true_eq,beq_iff_eq,bne_iff_ne,ne_eq,ite_not,Bool.and_eq_true,and_true,Bool.false_eq_true,if_false,if_true,i64_w,Bool.not_false,Bool.not_true,Int.zero_sub,Bool.not_eq_true',decide_eq_false_iff_not,Option.map_none] <;> (try simp only [mx,mn]) <;> rfl
theorem rect_Meet.calls (a0_0:Int) (a0_1:Int) (a0_2:Int) (a0_3:Int) (a1_0:Int) (a1_1:Int) (a1_2:Int) (a1_3:Int) (r1:Int) (r2:Int) (r3:Int) (r4:Int) (w:World) (h:rect_Meet.f a0_0 a0_1 a0_2 a0_3 a1_0 a1_1 a1_2 a1_3 = some (r1,r2,r3,r4)) :
  Calls Try.prog 53 #[.agg #[.int .i64 a0_0,.int .i64 a0_1,.int .i64 a0_2,.int .i64 a0_3],.agg #[.int .i64 a1_0,.int .i64 a1_1,.int .i64 a1_2,.int .i64 a1_3]] w fun e w' => e = .returned (.agg #[.int .i64 r1,.int .i64 r2,.int .i64 r3,.int .i64 r4]) ∧ Below w.heap.size w w':=by
 have hx:Y.xfun Try.prog SlPT.E SlPT.C55 3 53 [Y.MV.agg [Y.MV.val (.int .i64 a0_0),Y.MV.val (.int .i64 a0_1),Y.MV.val (.int .i64 a0_2),Y.MV.val (.int .i64 a0_3)],Y.MV.agg [Y.MV.val (.int .i64 a1_0),Y.MV.val (.int .i64 a1_1),Y.MV.val (.int .i64 a1_2),Y.MV.val (.int .i64 a1_3)]] [] Y.fin = some (Y.MV.agg [Y.MV.val (.int .i64 r1),Y.MV.val (.int .i64 r2),Y.MV.val (.int .i64 r3),Y.MV.val (.int .i64 r4)],[]):=by
  rw [SlPT.nf53]
  exact slim_rect_Meet_ h
 refine (Y.call_of SlPT.E_ok SlPT.C55_ok (fun _ _ _ => trivial) SlPT.mixed rfl rfl hx w).mono ?_
 rintro e w' ⟨rfl,hB⟩
 exact ⟨rfl,hB⟩
end Go.Proofs.Ytppklhfiajjhmaa.PPT
end
