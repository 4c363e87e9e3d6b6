/- What is proved: texts of the law TilesOwn, joined by program. Conditions: none but those in each statement. -/
import Derived.Test.YtppklhfiajjhmaaZTilesOwn11
import Derived.Test.YtppklhfiajjhmaaZTilesOwn12
section
namespace Go.Proofs.Ytppklhfiajjhmaa.PPT
open Go.RowKit Go.Proofs.YtppklhfiajjhmaaW.PrintWords Go.Proofs.YtppklhfiajjhmaaW.PrintLast Go.Proofs.YtppklhfiajjhmaaW.PrintMore
attribute [local go_sem] max2_int min2_int max_two min_two max_three min_three max_four min_four   -- for this text's walks alone
set_option linter.unusedVariables false
set_option linter.unusedSimpArgs false
mutual
def harm_Parts.j1:Nat → List (S39) → List (S39) → Option ((List (S39)) × (List (S39)))
 | 0,_,_ => none
 | k + 1,x0,x1 => harm_Parts.l1 k x0 x1
def harm_Parts.l1:Nat → List (S39) → List (S39) → Option ((List (S39)) × (List (S39)))
 | 0,_,_ => none
 | k + 1,x0,x1 => if (x0.length:Int) > 0 then (if (x1.length:Int) > 0 then (if 0 ≤ (wrap64 ((x0.length:Int) - 1)) then (if (wrap64 ((x0.length:Int) - 1)) < (x0.length:Int) then (if 0 ≤ (wrap64 ((x1.length:Int) - 1)) then (if (wrap64 ((x1.length:Int) - 1)) < (x1.length:Int) then ((harm_Alike.f ((rd_T39 x0 (wrap64 ((x0.length:Int) - 1))).f0) ((rd_T39 x0 (wrap64 ((x0.length:Int) - 1))).f1) ((rd_T39 x0 (wrap64 ((x0.length:Int) - 1))).f2.f0) ((rd_T39 x0 (wrap64 ((x0.length:Int) - 1))).f2.f1) ((rd_T39 x0 (wrap64 ((x0.length:Int) - 1))).f2.f2) ((rd_T39 x0 (wrap64 ((x0.length:Int) - 1))).f2.f3) ((rd_T39 x0 (wrap64 ((x0.length:Int) - 1))).f3.f0) ((rd_T39 x0 (wrap64 ((x0.length:Int) - 1))).f3.f1) ((rd_T39 x0 (wrap64 ((x0.length:Int) - 1))).f3.f2) ((rd_T39 x0 (wrap64 ((x0.length:Int) - 1))).f3.f3) ((rd_T39 x0 (wrap64 ((x0.length:Int) - 1))).f4.f0) ((rd_T39 x0 (wrap64 ((x0.length:Int) - 1))).f4.f1) ((rd_T39 x0 (wrap64 ((x0.length:Int) - 1))).f4.f2) ((rd_T39 x0 (wrap64 ((x0.length:Int) - 1))).f4.f3) ((rd_T39 x0 (wrap64 ((x0.length:Int) - 1))).f5) ((rd_T39 x1 (wrap64 ((x1.length:Int) - 1))).f0) ((rd_T39 x1 (wrap64 ((x1.length:Int) - 1))).f1) ((rd_T39 x1 (wrap64 ((x1.length:Int) - 1))).f2.f0) ((rd_T39 x1 (wrap64 ((x1.length:Int) - 1))).f2.f1) ((rd_T39 x1 (wrap64 ((x1.length:Int) - 1))).f2.f2) ((rd_T39 x1 (wrap64 ((x1.length:Int) - 1))).f2.f3) ((rd_T39 x1 (wrap64 ((x1.length:Int) - 1))).f3.f0) ((rd_T39 x1 (wrap64 ((x1.length:Int) - 1))).f3.f1) ((rd_T39 x1 (wrap64 ((x1.length:Int) - 1))).f3.f2) ((rd_T39 x1 (wrap64 ((x1.length:Int) - 1))).f3.f3) ((rd_T39 x1 (wrap64 ((x1.length:Int) - 1))).f4.f0) ((rd_T39 x1 (wrap64 ((x1.length:Int) - 1))).f4.f1) ((rd_T39 x1 (wrap64 ((x1.length:Int) - 1))).f4.f2) ((rd_T39 x1 (wrap64 ((x1.length:Int) - 1))).f4.f3) ((rd_T39 x1 (wrap64 ((x1.length:Int) - 1))).f5)).bind fun t169 => (if t169 = true then (if (wrap64 ((x0.length:Int) - 1)) ≤ (x0.length:Int) then (if (wrap64 ((x1.length:Int) - 1)) ≤ (x1.length:Int) then (harm_Parts.l1 k (x0.take ((wrap64 ((x0.length:Int) - 1)):Int).toNat) (x1.take ((wrap64 ((x1.length:Int) - 1)):Int).toNat)) else (none)) else (none)) else (if ([]:List (S39)).length + x0.length < 1172812402961 then (if ([]:List (S39)).length + x1.length < 1172812402961 then (some ((([]:List (S39)) ++ x0),(([]:List (S39)) ++ x1))) else (none)) else (none)))) else (none)) else (none)) else (none)) else (none)) else (if ([]:List (S39)).length + x0.length < 1172812402961 then (if ([]:List (S39)).length + x1.length < 1172812402961 then (some ((([]:List (S39)) ++ x0),(([]:List (S39)) ++ x1))) else (none)) else (none))) else (if ([]:List (S39)).length + x0.length < 1172812402961 then (if ([]:List (S39)).length + x1.length < 1172812402961 then (some ((([]:List (S39)) ++ x0),(([]:List (S39)) ++ x1))) else (none)) else (none))
def harm_Parts.l0:Nat → List (S39) → List (S39) → Option ((List (S39)) × (List (S39)))
 | 0,_,_ => none
 | k + 1,x0,x1 => if (x0.length:Int) > 0 then (if (x1.length:Int) > 0 then (if 0 < (x0.length:Int) then (if 0 < (x1.length:Int) then ((harm_Alike.f ((rd_T39 x0 0).f0) ((rd_T39 x0 0).f1) ((rd_T39 x0 0).f2.f0) ((rd_T39 x0 0).f2.f1) ((rd_T39 x0 0).f2.f2) ((rd_T39 x0 0).f2.f3) ((rd_T39 x0 0).f3.f0) ((rd_T39 x0 0).f3.f1) ((rd_T39 x0 0).f3.f2) ((rd_T39 x0 0).f3.f3) ((rd_T39 x0 0).f4.f0) ((rd_T39 x0 0).f4.f1) ((rd_T39 x0 0).f4.f2) ((rd_T39 x0 0).f4.f3) ((rd_T39 x0 0).f5) ((rd_T39 x1 0).f0) ((rd_T39 x1 0).f1) ((rd_T39 x1 0).f2.f0) ((rd_T39 x1 0).f2.f1) ((rd_T39 x1 0).f2.f2) ((rd_T39 x1 0).f2.f3) ((rd_T39 x1 0).f3.f0) ((rd_T39 x1 0).f3.f1) ((rd_T39 x1 0).f3.f2) ((rd_T39 x1 0).f3.f3) ((rd_T39 x1 0).f4.f0) ((rd_T39 x1 0).f4.f1) ((rd_T39 x1 0).f4.f2) ((rd_T39 x1 0).f4.f3) ((rd_T39 x1 0).f5)).bind fun t156 => (if t156 = true then (if 1 ≤ (x0.length:Int) then (if 1 ≤ (x1.length:Int) then (harm_Parts.l0 k (x0.drop 1) (x1.drop 1)) else (none)) else (none)) else (harm_Parts.j1 k x0 x1))) else (none)) else (none)) else (harm_Parts.j1 k x0 x1)) else (harm_Parts.j1 k x0 x1)
end
def harm_Parts.f (k:Nat) (l0:List (S39)) (l1:List (S39)):Option ((List (S39)) × (List (S39))):=harm_Parts.l0 k l0 l1
def harm_Parts.T1:Bool × List (List Nat × List Nat):=(true,[([],[]),([0],[0]),([1],[1]),([2],[2]),([3],[3]),([4,3],[3,4]),([5,3],[3,5]),([3,6],[3,6]),([7,3],[7]),([8],[8]),([9,8],[8,9]),([10,8],[8,10]),([8],[8]),([12,8],[8,12]),([13,8],[8,13]),([11,14,8,8],[8,11,14]),([8,15],[8,15])])
def harm_Parts.B1:List Nat:=[0,1,3,7,15,31,63,127,255,511,1023,2047,511,4607,12799,32767,65535]
theorem harm_Parts.tab1:rtab .any (opsOf Try.f16 1) = harm_Parts.T1:=by kernel_rfl
theorem harm_Parts.bits1:waitsOk harm_Parts.T1.2 harm_Parts.B1 = true:=by kernel_rfl
def harm_Parts.T3:Bool × List (List Nat × List Nat):=(true,[([],[]),([0],[0]),([1],[1]),([2],[2]),([3],[3]),([4,3],[3,4]),([5,3],[3,5]),([3,6],[3,6]),([7,3],[7]),([8],[8]),([8],[8]),([10,8],[8,10]),([11,8],[8,11]),([9,12,8],[8,9,12]),([13,8],[8,13]),([8],[8]),([8],[8]),([16,8],[8,16]),([17,8],[8,17]),([15,18,8],[8,15,18]),([19,8],[8,19]),([14,20,8,8],[8,14,20]),([8,21],[8,21])])
def harm_Parts.B3:List Nat:=[0,1,3,7,15,31,63,127,255,511,511,1535,3583,8191,16383,511,511,66047,197119,492031,1016319,2097151,4194303]
theorem harm_Parts.tab3:rtab .any (opsOf Try.f16 3) = harm_Parts.T3:=by kernel_rfl
theorem harm_Parts.bits3:waitsOk harm_Parts.T3.2 harm_Parts.B3 = true:=by kernel_rfl
def harm_Parts.T4:Bool × List (List Nat × List Nat):=(true,[([],[]),([],[]),([1],[1]),([2],[2]),([0,3],[0,3]),([],[]),([],[]),([6],[6]),([7],[7]),([5,8],[5,8]),([4,0,1,2,3,4],[0,1,4]),([9,10,0,1,2,3,4,5,6,7,8,9,10],[5,6,9])])
def harm_Parts.B4:List Nat:=[0,0,2,6,15,0,0,64,192,480,31,2047]
theorem harm_Parts.tab4:rtab .any (opsOf Try.f16 4) = harm_Parts.T4:=by kernel_rfl
theorem harm_Parts.bits4:waitsOk harm_Parts.T4.2 harm_Parts.B4 = true:=by kernel_rfl
set_option maxHeartbeats 8000000 in
set_option maxRecDepth 100000 in
theorem harm_Parts.calls (k:Nat) (P0_:Nat → Prop) (A0:Option Addr) (c0:Nat) (l0:List (S39)) (P1_:Nat → Prop) (A1:Option Addr) (c1:Nat) (l1:List (S39)) (r1:List (S39)) (r2:List (S39)) (w:World) (hs0:Kd.V k39 39 w w.heap.size (fun k_ => P0_ k_) (.slice A0 l0.length c0) l0) (hs1:Kd.V k39 39 w w.heap.size (fun k_ => P1_ k_) (.slice A1 l1.length c1) l1) (h:harm_Parts.f k l0 l1 = some (r1,r2)) :
  Calls Try.prog 16 #[.slice A0 l0.length c0,.slice A1 l1.length c1] w fun e w' => ∃ v0_ v1_:Value,e = .returned (.tuple #[v0_,v1_]) ∧ Kd.R k39 39 w' w.heap.size (fun k_ => (w.heap.size ≤ k_) ∧ some k_ ≠ (v1_:Value).ownBlock) v0_ r1 ∧ Kd.R k39 39 w' w.heap.size (fun k_ => (w.heap.size ≤ k_) ∧ some k_ ≠ (v0_:Value).ownBlock) v1_ r2 ∧ Below w.heap.size w w':=by
 have hu39:=Try.underlying39
 have HO0:=Aside0.mk (show Kd.V k39 39 w w.heap.size (fun k_ => ((P0_ k_ ∨ P1_ k_) ∨ w.heap.size ≤ k_)) (.slice A0 l0.length c0) l0 from Kd.V_mono hs0 (fun k_ hk => .inl (.inl hk)))
 have HO1:=Aside0.mk (show Kd.V k39 39 w w.heap.size (fun k_ => ((P0_ k_ ∨ P1_ k_) ∨ w.heap.size ≤ k_)) (.slice A1 l1.length c1) l1 from Kd.V_mono hs1 (fun k_ hk => .inl (.inr hk)))
 have HB:=Aside0.mk (Below.refl w.heap.size w)
 have H:(harm_Parts.l0 k l0 l1) = some (r1,r2):=h
 clear h
 have HC3:=Aside0.mk H
 clear H
 go_enter Try.func16,Try.ntmps16
 go_upto_block 0 with (fail)
 go_cut [0,1] (fun v0 v1 wc => ∃ (kq:Nat) (x0_2:List (S39)) (x1_2:List (S39)),Aside0 (harm_Parts.j1 kq x0_2 x1_2 = some (r1,r2)) ∧ Aside0 (kq ≤ k) ∧ Aside0 (Kd.V k39 39 wc w.heap.size (fun k_ => ((P0_ k_ ∨ P1_ k_) ∨ w.heap.size ≤ k_)) v0 x0_2) ∧ Aside0 (Kd.V k39 39 wc w.heap.size (fun k_ => ((P0_ k_ ∨ P1_ k_) ∨ w.heap.size ≤ k_)) v1 x1_2) ∧ Aside0 (Below w.heap.size w wc))
 case first =>
  have H:=HC3.out
  clear HC3
  have H':=Aside0.mk H
  clear H
  go_wp2
  go_loopg [0,1] k (fun kq v0 v1 w' => ∃ (x0_1:List (S39)) (x1_1:List (S39)),Aside0 (harm_Parts.l0 kq x0_1 x1_1 = some (r1,r2)) ∧ Aside0 (kq ≤ k) ∧ Aside0 (Kd.V k39 39 w' w.heap.size (fun k_ => ((P0_ k_ ∨ P1_ k_) ∨ w.heap.size ≤ k_)) v0 x0_1) ∧ Aside0 (Kd.V k39 39 w' w.heap.size (fun k_ => ((P0_ k_ ∨ P1_ k_) ∨ w.heap.size ≤ k_)) v1 x1_1) ∧ Aside0 (Below w.heap.size w w'))
  case atStart => exact ⟨(l0),(l1),H',⟨Nat.le_refl _⟩,⟨by (with_reducible repeat (first | apply Kd.V_alloc | apply Kd.V_drewN | apply Kd.V_drew)); exact HO0.out⟩,⟨by (with_reducible repeat (first | apply Kd.V_alloc | apply Kd.V_drewN | apply Kd.V_drew)); exact HO1.out⟩,⟨by repeat (first | (with_reducible first | exact HB.out | apply below_alloc | apply pw_below_drewN | apply below_drew1) | exact HB.out)⟩⟩
  case round =>
   clear H'
   try clear c1
   try clear p2
   obtain ⟨x0_1,x1_1,HA,HK1,HO_0,HO_1,HB⟩:=hrel
   cases gk with
   | zero => exact absurd HA.out (by simp [harm_Parts.l0])
   | succ k1 =>
    have H:=HA.out
    clear HA
    simp only [harm_Parts.l0] at H
    by_cases c4:(x0_1.length:Int) > 0
    ·rw [if_pos c4] at H
     have c4b0:decide (0 < (x0_1.length:Int)) = true:=decide_eq_true c4
     have c4b1:decide (0 < x0_1.length) = true:=decide_eq_true (by omega)
     clear c4
     (first | rw [c4b0] | (simp only [i64_w,i32_w]; rw [c4b0]) | skip)
     by_cases c5:(x1_1.length:Int) > 0
     ·rw [if_pos c5] at H
      have c5b0:decide (0 < (x1_1.length:Int)) = true:=decide_eq_true c5
      have c5b1:decide (0 < x1_1.length) = true:=decide_eq_true (by omega)
      clear c5
      by_cases c6:0 < (x0_1.length:Int)
      ·rw [if_pos c6] at H
       have c6b0:decide (0 < (x0_1.length:Int)) = true:=decide_eq_true c6
       have c6b1:decide (0 < x0_1.length) = true:=decide_eq_true (by omega)
       clear c6
       by_cases c7:0 < (x1_1.length:Int)
       ·rw [if_pos c7] at H
        have c7b0:decide (0 < (x1_1.length:Int)) = true:=decide_eq_true c7
        have c7b1:decide (0 < x1_1.length) = true:=decide_eq_true (by omega)
        clear c7
        replace H:=Option.bind_eq_some_iff.mp H
        obtain ⟨t156,A80,H⟩:=H
        replace H:(if t156 = true then (if 1 ≤ (x0_1.length:Int) then (if 1 ≤ (x1_1.length:Int) then (harm_Parts.l0 k1 (x0_1.drop 1) (x1_1.drop 1)) else (none)) else (none)) else (harm_Parts.j1 k1 x0_1 x1_1)) = some (r1,r2):=H
        have A8:=Aside0.mk A80
        clear A80
        by_cases c9:t156 = true
        ·subst c9
         have H1:(if 1 ≤ (x0_1.length:Int) then (if 1 ≤ (x1_1.length:Int) then (harm_Parts.l0 k1 (x0_1.drop 1) (x1_1.drop 1)) else (none)) else (none)) = some (r1,r2):=by rw [if_pos rfl] at H; exact H
         clear H
         have H:=H1
         clear H1
         by_cases c10:1 ≤ (x0_1.length:Int)
         ·rw [if_pos c10] at H
          have c10b0:=eq_true c10
          have c10b1:decide (1 ≤ (x0_1.length:Int)) = true:=decide_eq_true c10
          clear c10
          obtain ⟨y157,hy157⟩:∃ y_:List (S39),y_ = (x0_1.drop 1):=⟨_,rfl⟩
          replace H:(if 1 ≤ (x1_1.length:Int) then (harm_Parts.l0 k1 y157 (x1_1.drop 1)) else (none)) = some (r1,r2):=by first | (rw [hy157]; with_reducible exact H) | (have H2_:=(Option.bind_some _ _).symm.trans H; rw [hy157]; with_reducible exact H2_) | (have H2_:=(Option.bind_some _ _).symm.trans H; with_reducible exact H2_) | with_reducible exact H | (rw [hy157]; exact H) | exact H
          have Ny157:=Aside0.mk hy157
          clear hy157
          by_cases c11:1 ≤ (x1_1.length:Int)
          ·rw [if_pos c11] at H
           have c11b0:=eq_true c11
           have c11b1:decide (1 ≤ (x1_1.length:Int)) = true:=decide_eq_true c11
           clear c11
           obtain ⟨y162,hy162⟩:∃ y_:List (S39),y_ = (x1_1.drop 1):=⟨_,rfl⟩
           replace H:(harm_Parts.l0 k1 y157 y162) = some (r1,r2):=by first | (rw [hy162]; with_reducible exact H) | (have H2_:=(Option.bind_some _ _).symm.trans H; rw [hy162]; with_reducible exact H2_) | (have H2_:=(Option.bind_some _ _).symm.trans H; with_reducible exact H2_) | with_reducible exact H | (rw [hy162]; exact H) | exact H
           have Ny162:=Aside0.mk hy162
           clear hy162
           have H':=Aside0.mk H
           clear H
           try go_wp2
           have n0_:=Aside0.mk (Kd.V_drew HO_0.out)
           have n1_:=Aside0.mk (Kd.V_drew HO_1.out)
           have n2_:=Aside0.mk (below_drew1 HB.out)
           clear HO_0
           clear HO_1
           clear HB
           have HO_0:=n0_
           have HO_1:=n1_
           have HB:=n2_
           clear n0_ n1_ n2_
           obtain ⟨Ao13,co13,eo13⟩:=Kd.V_slice HO_0.out
           (first | subst eo13 | (injection eo13 with f1_ f2_ f3_; have f4_:=f1_.symm; have f5_:=f3_.symm; clear f1_ f2_ f3_; subst f4_; subst f5_))
           obtain ⟨Ao14,co14,eo14⟩:=Kd.V_slice HO_1.out
           (first | subst eo14 | (injection eo14 with f1_ f2_ f3_; have f4_:=f1_.symm; have f5_:=f3_.symm; clear f1_ f2_ f3_; subst f4_; subst f5_))
           have p154:0 ≤ (0:Int):=(by omega)
           have q154:0 < (x0_1.length:Int):=of_decide_eq_true (by first | (with_reducible assumption) | assumption)
           obtain ⟨ad154,e154,hx154_0,hx154_1,hx154_2,hx154_3,hx154_4,hx154_5,hx154_6,hx154_7,hx154_8,hx154_9,hx154_10,hx154_11,hx154_12,hx154_13,hx154_14⟩:=at_T39 (Kd.V_reads' HO_0.out).2.2 0 p154 q154
           cases e154
           have qi154:(0 < x0_1.length) = True:=eq_true (by omega)
           (try rw [show ((0:Int)).toNat = 0 from rfl] at hx154_0)
           (try rw [show 0 * 15 = 0 from rfl] at hx154_0)
           (try rw [Addr.add_zero'] at hx154_0)
           (try rw [show ((0:Int)).toNat = 0 from rfl] at hx154_1)
           (try rw [show 0 * 15 = 0 from rfl] at hx154_1)
           (try rw [Addr.add_zero'] at hx154_1)
           (try rw [show ((0:Int)).toNat = 0 from rfl] at hx154_2)
           (try rw [show 0 * 15 = 0 from rfl] at hx154_2)
           (try rw [Addr.add_zero'] at hx154_2)
           (try rw [show ((0:Int)).toNat = 0 from rfl] at hx154_3)
           (try rw [show 0 * 15 = 0 from rfl] at hx154_3)
           (try rw [Addr.add_zero'] at hx154_3)
           (try rw [show ((0:Int)).toNat = 0 from rfl] at hx154_4)
           (try rw [show 0 * 15 = 0 from rfl] at hx154_4)
           (try rw [Addr.add_zero'] at hx154_4)
           (try rw [show ((0:Int)).toNat = 0 from rfl] at hx154_5)
           (try rw [show 0 * 15 = 0 from rfl] at hx154_5)
           (try rw [Addr.add_zero'] at hx154_5)
           (try rw [show ((0:Int)).toNat = 0 from rfl] at hx154_6)
           (try rw [show 0 * 15 = 0 from rfl] at hx154_6)
           (try rw [Addr.add_zero'] at hx154_6)
           (try rw [show ((0:Int)).toNat = 0 from rfl] at hx154_7)
           (try rw [show 0 * 15 = 0 from rfl] at hx154_7)
           (try rw [Addr.add_zero'] at hx154_7)
           (try rw [show ((0:Int)).toNat = 0 from rfl] at hx154_8)
           (try rw [show 0 * 15 = 0 from rfl] at hx154_8)
           (try rw [Addr.add_zero'] at hx154_8)
           (try rw [show ((0:Int)).toNat = 0 from rfl] at hx154_9)
           (try rw [show 0 * 15 = 0 from rfl] at hx154_9)
           (try rw [Addr.add_zero'] at hx154_9)
           (try rw [show ((0:Int)).toNat = 0 from rfl] at hx154_10)
           (try rw [show 0 * 15 = 0 from rfl] at hx154_10)
           (try rw [Addr.add_zero'] at hx154_10)
           (try rw [show ((0:Int)).toNat = 0 from rfl] at hx154_11)
           (try rw [show 0 * 15 = 0 from rfl] at hx154_11)
           (try rw [Addr.add_zero'] at hx154_11)
           (try rw [show ((0:Int)).toNat = 0 from rfl] at hx154_12)
           (try rw [show 0 * 15 = 0 from rfl] at hx154_12)
           (try rw [Addr.add_zero'] at hx154_12)
           (try rw [show ((0:Int)).toNat = 0 from rfl] at hx154_13)
           (try rw [show 0 * 15 = 0 from rfl] at hx154_13)
           (try rw [Addr.add_zero'] at hx154_13)
           (try rw [show ((0:Int)).toNat = 0 from rfl] at hx154_14)
           (try rw [show 0 * 15 = 0 from rfl] at hx154_14)
           (try rw [Addr.add_zero'] at hx154_14)
           replace p154:=eq_true p154
           replace q154:=eq_true q154
           have p155:0 ≤ (0:Int):=(by omega)
           have q155:0 < (x1_1.length:Int):=of_decide_eq_true (by first | (with_reducible assumption) | assumption)
           obtain ⟨ad155,e155,hx155_0,hx155_1,hx155_2,hx155_3,hx155_4,hx155_5,hx155_6,hx155_7,hx155_8,hx155_9,hx155_10,hx155_11,hx155_12,hx155_13,hx155_14⟩:=at_T39 (Kd.V_reads' HO_1.out).2.2 0 p155 q155
           cases e155
           have qi155:(0 < x1_1.length) = True:=eq_true (by omega)
           (try rw [show ((0:Int)).toNat = 0 from rfl] at hx155_0)
           (try rw [show 0 * 15 = 0 from rfl] at hx155_0)
           (try rw [Addr.add_zero'] at hx155_0)
           (try rw [show ((0:Int)).toNat = 0 from rfl] at hx155_1)
           (try rw [show 0 * 15 = 0 from rfl] at hx155_1)
           (try rw [Addr.add_zero'] at hx155_1)
           (try rw [show ((0:Int)).toNat = 0 from rfl] at hx155_2)
           (try rw [show 0 * 15 = 0 from rfl] at hx155_2)
           (try rw [Addr.add_zero'] at hx155_2)
           (try rw [show ((0:Int)).toNat = 0 from rfl] at hx155_3)
           (try rw [show 0 * 15 = 0 from rfl] at hx155_3)
           (try rw [Addr.add_zero'] at hx155_3)
           (try rw [show ((0:Int)).toNat = 0 from rfl] at hx155_4)
           (try rw [show 0 * 15 = 0 from rfl] at hx155_4)
           (try rw [Addr.add_zero'] at hx155_4)
           (try rw [show ((0:Int)).toNat = 0 from rfl] at hx155_5)
           (try rw [show 0 * 15 = 0 from rfl] at hx155_5)
           (try rw [Addr.add_zero'] at hx155_5)
           (try rw [show ((0:Int)).toNat = 0 from rfl] at hx155_6)
           (try rw [show 0 * 15 = 0 from rfl] at hx155_6)
           (try rw [Addr.add_zero'] at hx155_6)
           (try rw [show ((0:Int)).toNat = 0 from rfl] at hx155_7)
           (try rw [show 0 * 15 = 0 from rfl] at hx155_7)
           (try rw [Addr.add_zero'] at hx155_7)
           (try rw [show ((0:Int)).toNat = 0 from rfl] at hx155_8)
           (try rw [show 0 * 15 = 0 from rfl] at hx155_8)
           (try rw [Addr.add_zero'] at hx155_8)
           (try rw [show ((0:Int)).toNat = 0 from rfl] at hx155_9)
           (try rw [show 0 * 15 = 0 from rfl] at hx155_9)
           (try rw [Addr.add_zero'] at hx155_9)
           (try rw [show ((0:Int)).toNat = 0 from rfl] at hx155_10)
           (try rw [show 0 * 15 = 0 from rfl] at hx155_10)
           (try rw [Addr.add_zero'] at hx155_10)
           (try rw [show ((0:Int)).toNat = 0 from rfl] at hx155_11)
           (try rw [show 0 * 15 = 0 from rfl] at hx155_11)
           (try rw [Addr.add_zero'] at hx155_11)
           (try rw [show ((0:Int)).toNat = 0 from rfl] at hx155_12)
           (try rw [show 0 * 15 = 0 from rfl] at hx155_12)
           (try rw [Addr.add_zero'] at hx155_12)
           (try rw [show ((0:Int)).toNat = 0 from rfl] at hx155_13)
           (try rw [show 0 * 15 = 0 from rfl] at hx155_13)
           (try rw [Addr.add_zero'] at hx155_13)
           (try rw [show ((0:Int)).toNat = 0 from rfl] at hx155_14)
           (try rw [show 0 * 15 = 0 from rfl] at hx155_14)
           (try rw [Addr.add_zero'] at hx155_14)
           replace p155:=eq_true p155
           replace q155:=eq_true q155
           refine start_ (n:=17) (S:=fun w' => w'.cell? ad154 = some (.int .i64 ((rd_T39 x0_1 0).f0)) ∧ w'.cell? ⟨ad154.block,ad154.off + 1,none⟩ = some (.int .i64 ((rd_T39 x0_1 0).f1)) ∧ w'.cell? ⟨ad154.block,ad154.off + 2,none⟩ = some (.int .i64 ((rd_T39 x0_1 0).f2.f0)) ∧ w'.cell? ⟨ad154.block,ad154.off + 3,none⟩ = some (.int .i64 ((rd_T39 x0_1 0).f2.f1)) ∧ w'.cell? ⟨ad154.block,ad154.off + 4,none⟩ = some (.int .i64 ((rd_T39 x0_1 0).f2.f2)) ∧ w'.cell? ⟨ad154.block,ad154.off + 5,none⟩ = some (.int .i64 ((rd_T39 x0_1 0).f2.f3)) ∧ w'.cell? ⟨ad154.block,ad154.off + 6,none⟩ = some (.int .i64 ((rd_T39 x0_1 0).f3.f0)) ∧ w'.cell? ⟨ad154.block,ad154.off + 7,none⟩ = some (.int .i64 ((rd_T39 x0_1 0).f3.f1)) ∧ w'.cell? ⟨ad154.block,ad154.off + 8,none⟩ = some (.int .i64 ((rd_T39 x0_1 0).f3.f2)) ∧ w'.cell? ⟨ad154.block,ad154.off + 9,none⟩ = some (.int .i64 ((rd_T39 x0_1 0).f3.f3)) ∧ w'.cell? ⟨ad154.block,ad154.off + 10,none⟩ = some (.int .i64 ((rd_T39 x0_1 0).f4.f0)) ∧ w'.cell? ⟨ad154.block,ad154.off + 11,none⟩ = some (.int .i64 ((rd_T39 x0_1 0).f4.f1)) ∧ w'.cell? ⟨ad154.block,ad154.off + 12,none⟩ = some (.int .i64 ((rd_T39 x0_1 0).f4.f2)) ∧ w'.cell? ⟨ad154.block,ad154.off + 13,none⟩ = some (.int .i64 ((rd_T39 x0_1 0).f4.f3)) ∧ w'.cell? ⟨ad154.block,ad154.off + 14,none⟩ = some (.int .i64 ((rd_T39 x0_1 0).f5)) ∧ w'.cell? ad155 = some (.int .i64 ((rd_T39 x1_1 0).f0)) ∧ w'.cell? ⟨ad155.block,ad155.off + 1,none⟩ = some (.int .i64 ((rd_T39 x1_1 0).f1)) ∧ w'.cell? ⟨ad155.block,ad155.off + 2,none⟩ = some (.int .i64 ((rd_T39 x1_1 0).f2.f0)) ∧ w'.cell? ⟨ad155.block,ad155.off + 3,none⟩ = some (.int .i64 ((rd_T39 x1_1 0).f2.f1)) ∧ w'.cell? ⟨ad155.block,ad155.off + 4,none⟩ = some (.int .i64 ((rd_T39 x1_1 0).f2.f2)) ∧ w'.cell? ⟨ad155.block,ad155.off + 5,none⟩ = some (.int .i64 ((rd_T39 x1_1 0).f2.f3)) ∧ w'.cell? ⟨ad155.block,ad155.off + 6,none⟩ = some (.int .i64 ((rd_T39 x1_1 0).f3.f0)) ∧ w'.cell? ⟨ad155.block,ad155.off + 7,none⟩ = some (.int .i64 ((rd_T39 x1_1 0).f3.f1)) ∧ w'.cell? ⟨ad155.block,ad155.off + 8,none⟩ = some (.int .i64 ((rd_T39 x1_1 0).f3.f2)) ∧ w'.cell? ⟨ad155.block,ad155.off + 9,none⟩ = some (.int .i64 ((rd_T39 x1_1 0).f3.f3)) ∧ w'.cell? ⟨ad155.block,ad155.off + 10,none⟩ = some (.int .i64 ((rd_T39 x1_1 0).f4.f0)) ∧ w'.cell? ⟨ad155.block,ad155.off + 11,none⟩ = some (.int .i64 ((rd_T39 x1_1 0).f4.f1)) ∧ w'.cell? ⟨ad155.block,ad155.off + 12,none⟩ = some (.int .i64 ((rd_T39 x1_1 0).f4.f2)) ∧ w'.cell? ⟨ad155.block,ad155.off + 13,none⟩ = some (.int .i64 ((rd_T39 x1_1 0).f4.f3)) ∧ w'.cell? ⟨ad155.block,ad155.off + 14,none⟩ = some (.int .i64 ((rd_T39 x1_1 0).f5))) (ds:=[]) #[false,false,false,false,false,false,false,false,false,false,false,false,false,false,false,false,false] (by kernel_rfl) rfl rfl ⟨hx154_0,hx154_1,hx154_2,hx154_3,hx154_4,hx154_5,hx154_6,hx154_7,hx154_8,hx154_9,hx154_10,hx154_11,hx154_12,hx154_13,hx154_14,hx155_0,hx155_1,hx155_2,hx155_3,hx155_4,hx155_5,hx155_6,hx155_7,hx155_8,hx155_9,hx155_10,hx155_11,hx155_12,hx155_13,hx155_14⟩ (fun hHeld => ?_); refine with_tabW harm_Parts.tab1 harm_Parts.bits1 (fun HT_ HW_ => ?_)
           generalize wr.drew = w12 at HO_0 HO_1 HB hx154_0 hx154_1 hx154_10 hx154_11 hx154_12 hx154_13 hx154_14 hx154_2 hx154_3 hx154_4 hx154_5 hx154_6 hx154_7 hx154_8 hx154_9 hx155_0 hx155_1 hx155_10 hx155_11 hx155_12 hx155_13 hx155_14 hx155_2 hx155_3 hx155_4 hx155_5 hx155_6 hx155_7 hx155_8 hx155_9 hHeld ⊢
           refine pure_ (i:=0) (N:=some 6) (v:=?_) (a':=?_) #[true,false,false,false,false,false,false,false,false,false,false,false,false,false,false,false,false] rfl rfl (any_of HT_.out (by kernel_rfl)) (fun _ _ _ h => h) (Or.inl ⟨by rfl,?_⟩) ?_ ?_
           rotate_left
           ·intro w'
            go_simp
            with_reducible rfl
           rotate_left
           ·simp only [Act.put,List.setIfInBounds_toArray,List.set_cons_zero,List.set_cons_succ,i64_w,i32_w]
            rfl
           refine pure_ (i:=1) (N:=some 7) (v:=?_) (a':=?_) #[true,true,false,false,false,false,false,false,false,false,false,false,false,false,false,false,false] rfl rfl (any_of HT_.out (by kernel_rfl)) (fun _ _ _ h => h) (Or.inl ⟨by rfl,?_⟩) ?_ ?_
           rotate_left
           ·intro w'
            go_simp
            with_reducible rfl
           rotate_left
           ·simp only [Act.put,List.setIfInBounds_toArray,List.set_cons_zero,List.set_cons_succ,i64_w,i32_w]
            rfl
           refine pure_ (i:=2) (N:=some 8) (v:=?_) (a':=?_) #[true,true,true,false,false,false,false,false,false,false,false,false,false,false,false,false,false] rfl rfl (any_of HT_.out (by kernel_rfl)) (fun _ _ _ h => h) (Or.inl ⟨by rfl,?_⟩) ?_ ?_
           rotate_left
           ·intro w'
            go_simp
            with_reducible rfl
           rotate_left
           ·simp only [Act.put,List.setIfInBounds_toArray,List.set_cons_zero,List.set_cons_succ,i64_w,i32_w]
            rfl
           refine pure_ (i:=3) (N:=some 9) (v:=?_) (a':=?_) #[true,true,true,true,false,false,false,false,false,false,false,false,false,false,false,false,false] rfl rfl (any_of HT_.out (by kernel_rfl)) (fun _ _ _ h => h) (Or.inl ⟨by rfl,?_⟩) ?_ ?_
           rotate_left
           ·intro w'
            go_simp
            with_reducible rfl
           rotate_left
           ·simp only [Act.put,List.setIfInBounds_toArray,List.set_cons_zero,List.set_cons_succ,i64_w,i32_w]
            rfl
           refine pure_ (i:=4) (N:=some 10) (v:=?_) (a':=?_) #[true,true,true,true,true,false,false,false,false,false,false,false,false,false,false,false,false] rfl rfl (any_of HT_.out (by kernel_rfl)) (fun _ _ _ h => h) (Or.inl ⟨by rfl,?_⟩) ?_ ?_
           rotate_left
           ·intro w'
            go_simp
            with_reducible rfl
           rotate_left
           ·simp only [Act.put,List.setIfInBounds_toArray,List.set_cons_zero,List.set_cons_succ,i64_w,i32_w]
            rfl
           refine pure_ (i:=5) (N:=some 11) (v:=?_) (a':=?_) #[true,true,true,true,true,true,false,false,false,false,false,false,false,false,false,false,false] rfl rfl (any_of HT_.out (by kernel_rfl)) (fun _ _ _ h => h) (Or.inl ⟨by rfl,?_⟩) ?_ ?_
           rotate_left
           ·intro w'
            go_simp
            with_reducible rfl
           rotate_left
           ·simp only [Act.put,List.setIfInBounds_toArray,List.set_cons_zero,List.set_cons_succ,i64_w,i32_w]
            rfl
           refine pure_ (i:=6) (N:=some 12) (v:=?_) (a':=?_) #[true,true,true,true,true,true,true,false,false,false,false,false,false,false,false,false,false] rfl rfl (any_of HT_.out (by kernel_rfl)) (fun _ _ _ h => h) (Or.inl ⟨by rfl,?_⟩) ?_ ?_
           rotate_left
           ·intro w'
            go_simp
            with_reducible rfl
           rotate_left
           ·simp only [Act.put,List.setIfInBounds_toArray,List.set_cons_zero,List.set_cons_succ,i64_w,i32_w]
            rfl
           refine pure_ (i:=7) (N:=some 13) (v:=?_) (a':=?_) #[true,true,true,true,true,true,true,true,false,false,false,false,false,false,false,false,false] rfl rfl (any_of HT_.out (by kernel_rfl)) (fun _ _ _ h => h) (Or.inl ⟨by rfl,?_⟩) ?_ ?_
           rotate_left
           ·intro w'
            go_simp
            with_reducible rfl
           rotate_left
           ·simp only [Act.put,List.setIfInBounds_toArray,List.set_cons_zero,List.set_cons_succ,i64_w,i32_w]
            rfl
           refine pure_ (i:=8) (N:=some 14) (v:=?_) (a':=?_) #[true,true,true,true,true,true,true,true,true,false,false,false,false,false,false,false,false] rfl rfl (any_of HT_.out (by kernel_rfl)) (fun _ _ _ h => h) (Or.inl ⟨by rfl,?_⟩) ?_ ?_
           rotate_left
           ·intro w'
            go_simp
            with_reducible rfl
           rotate_left
           ·simp only [Act.put,List.setIfInBounds_toArray,List.set_cons_zero,List.set_cons_succ,i64_w,i32_w]
            rfl
           refine pure_ (i:=9) (N:=some 15) (v:=?_) (a':=?_) #[true,true,true,true,true,true,true,true,true,true,false,false,false,false,false,false,false] rfl rfl (any_of HT_.out (by kernel_rfl)) (fun _ _ _ h => h) (Or.inl ⟨by rfl,?_⟩) ?_ ?_
           rotate_left
           ·intro w'
            go_simp
            with_reducible rfl
           rotate_left
           ·simp only [Act.put,List.setIfInBounds_toArray,List.set_cons_zero,List.set_cons_succ,i64_w,i32_w]
            rfl
           refine pure_ (i:=10) (N:=some 16) (v:=?_) (a':=?_) #[true,true,true,true,true,true,true,true,true,true,true,false,false,false,false,false,false] rfl rfl (any_of HT_.out (by kernel_rfl)) (fun _ _ _ h => h) (Or.inl ⟨by rfl,?_⟩) ?_ ?_
           rotate_left
           ·intro w'
            go_simp
            with_reducible rfl
           rotate_left
           ·simp only [Act.put,List.setIfInBounds_toArray,List.set_cons_zero,List.set_cons_succ,i64_w,i32_w]
            rfl
           refine pure_ (i:=12) (N:=some 18) (v:=?_) (a':=?_) #[true,true,true,true,true,true,true,true,true,true,true,false,true,false,false,false,false] rfl rfl (any_of HT_.out (by kernel_rfl)) (fun _ _ _ h => h) (Or.inl ⟨by rfl,?_⟩) ?_ ?_
           rotate_left
           ·intro w'
            go_simp
            with_reducible rfl
           rotate_left
           ·simp only [Act.put,List.setIfInBounds_toArray,List.set_cons_zero,List.set_cons_succ,i64_w,i32_w]
            rfl
           refine pure_ (i:=13) (N:=some 19) (v:=?_) (a':=?_) #[true,true,true,true,true,true,true,true,true,true,true,false,true,true,false,false,false] rfl rfl (any_of HT_.out (by kernel_rfl)) (fun _ _ _ h => h) (Or.inl ⟨by rfl,?_⟩) ?_ ?_
           rotate_left
           ·intro w'
            go_simp
            with_reducible rfl
           rotate_left
           ·simp only [Act.put,List.setIfInBounds_toArray,List.set_cons_zero,List.set_cons_succ,i64_w,i32_w]
            rfl
           refine take_ (i:=11) (N:=some 17) (v:=?_) (a':=?_) #[true,true,true,true,true,true,true,true,true,true,true,true,true,true,false,false,false] rfl rfl (take_ofW HT_.out HW_.out (by kernel_rfl)) (fun _ _ _ h => h) (Or.inl ⟨by rfl,?_⟩) hHeld ?_ ?_
           rotate_left
           ·rintro w' ⟨s0,s1,s2,s3,s4,s5,s6,s7,s8,s9,s10,s11,s12,s13,s14,s15,s16,s17,s18,s19,s20,s21,s22,s23,s24,s25,s26,s27,s28,s29⟩
            go_simp
            with_reducible rfl
           rotate_left
           ·simp only [Act.put,List.setIfInBounds_toArray,List.set_cons_zero,List.set_cons_succ,i64_w,i32_w]
            rfl
           refine take_ (i:=14) (N:=some 20) (v:=?_) (a':=?_) #[true,true,true,true,true,true,true,true,true,true,true,true,true,true,true,false,false] rfl rfl (take_ofW HT_.out HW_.out (by kernel_rfl)) (fun _ _ _ h => h) (Or.inl ⟨by rfl,?_⟩) hHeld ?_ ?_
           rotate_left
           ·rintro w' ⟨s0,s1,s2,s3,s4,s5,s6,s7,s8,s9,s10,s11,s12,s13,s14,s15,s16,s17,s18,s19,s20,s21,s22,s23,s24,s25,s26,s27,s28,s29⟩
            go_simp
            with_reducible rfl
           rotate_left
           ·simp only [Act.put,List.setIfInBounds_toArray,List.set_cons_zero,List.set_cons_succ,i64_w,i32_w]
            rfl
           refine one_ (i:=15) (N:=some 21) #[true,true,true,true,true,true,true,true,true,true,true,true,true,true,true,true,false] rfl rfl (one_of HT_.out (by kernel_rfl)) (by decide) (fun K hK => ?_)
           refine goes_ Try.func24 (by kernel_rfl) rfl #[.agg #[.int .i64 ((rd_T39 x0_1 0).f0),.int .i64 ((rd_T39 x0_1 0).f1),.int .i64 ((rd_T39 x0_1 0).f2.f0),.int .i64 ((rd_T39 x0_1 0).f2.f1),.int .i64 ((rd_T39 x0_1 0).f2.f2),.int .i64 ((rd_T39 x0_1 0).f2.f3),.int .i64 ((rd_T39 x0_1 0).f3.f0),.int .i64 ((rd_T39 x0_1 0).f3.f1),.int .i64 ((rd_T39 x0_1 0).f3.f2),.int .i64 ((rd_T39 x0_1 0).f3.f3),.int .i64 ((rd_T39 x0_1 0).f4.f0),.int .i64 ((rd_T39 x0_1 0).f4.f1),.int .i64 ((rd_T39 x0_1 0).f4.f2),.int .i64 ((rd_T39 x0_1 0).f4.f3),.int .i64 ((rd_T39 x0_1 0).f5)],.agg #[.int .i64 ((rd_T39 x1_1 0).f0),.int .i64 ((rd_T39 x1_1 0).f1),.int .i64 ((rd_T39 x1_1 0).f2.f0),.int .i64 ((rd_T39 x1_1 0).f2.f1),.int .i64 ((rd_T39 x1_1 0).f2.f2),.int .i64 ((rd_T39 x1_1 0).f2.f3),.int .i64 ((rd_T39 x1_1 0).f3.f0),.int .i64 ((rd_T39 x1_1 0).f3.f1),.int .i64 ((rd_T39 x1_1 0).f3.f2),.int .i64 ((rd_T39 x1_1 0).f3.f3),.int .i64 ((rd_T39 x1_1 0).f4.f0),.int .i64 ((rd_T39 x1_1 0).f4.f1),.int .i64 ((rd_T39 x1_1 0).f4.f2),.int .i64 ((rd_T39 x1_1 0).f4.f3),.int .i64 ((rd_T39 x1_1 0).f5)]] (by rfl) rfl rfl (by (try simp only [List.map_toArray,List.map_cons,List.map_nil]); first | done | rfl | (simp only [List.length_drop,List.length_take]; rfl)) ?_
           with_reducible refine (harm_Alike.calls ((rd_T39 x0_1 0).f0) ((rd_T39 x0_1 0).f1) ((rd_T39 x0_1 0).f2.f0) ((rd_T39 x0_1 0).f2.f1) ((rd_T39 x0_1 0).f2.f2) ((rd_T39 x0_1 0).f2.f3) ((rd_T39 x0_1 0).f3.f0) ((rd_T39 x0_1 0).f3.f1) ((rd_T39 x0_1 0).f3.f2) ((rd_T39 x0_1 0).f3.f3) ((rd_T39 x0_1 0).f4.f0) ((rd_T39 x0_1 0).f4.f1) ((rd_T39 x0_1 0).f4.f2) ((rd_T39 x0_1 0).f4.f3) ((rd_T39 x0_1 0).f5) ((rd_T39 x1_1 0).f0) ((rd_T39 x1_1 0).f1) ((rd_T39 x1_1 0).f2.f0) ((rd_T39 x1_1 0).f2.f1) ((rd_T39 x1_1 0).f2.f2) ((rd_T39 x1_1 0).f2.f3) ((rd_T39 x1_1 0).f3.f0) ((rd_T39 x1_1 0).f3.f1) ((rd_T39 x1_1 0).f3.f2) ((rd_T39 x1_1 0).f3.f3) ((rd_T39 x1_1 0).f4.f0) ((rd_T39 x1_1 0).f4.f1) ((rd_T39 x1_1 0).f4.f2) ((rd_T39 x1_1 0).f4.f3) ((rd_T39 x1_1 0).f5) true _ A8.out).mono ?_
           rintro e w15 ⟨rfl,hb⟩
           have HS0_:=(hb.cell (World.block_lt_of_cell? _ _ (hHeld.1))).trans (hHeld.1)
           have HS1_:=(hb.cell (World.block_lt_of_cell? _ _ (hHeld.2.1))).trans (hHeld.2.1)
           have HS2_:=(hb.cell (World.block_lt_of_cell? _ _ (hHeld.2.2.1))).trans (hHeld.2.2.1)
           have HS3_:=(hb.cell (World.block_lt_of_cell? _ _ (hHeld.2.2.2.1))).trans (hHeld.2.2.2.1)
           have HS4_:=(hb.cell (World.block_lt_of_cell? _ _ (hHeld.2.2.2.2.1))).trans (hHeld.2.2.2.2.1)
           have HS5_:=(hb.cell (World.block_lt_of_cell? _ _ (hHeld.2.2.2.2.2.1))).trans (hHeld.2.2.2.2.2.1)
           have HS6_:=(hb.cell (World.block_lt_of_cell? _ _ (hHeld.2.2.2.2.2.2.1))).trans (hHeld.2.2.2.2.2.2.1)
           have HS7_:=(hb.cell (World.block_lt_of_cell? _ _ (hHeld.2.2.2.2.2.2.2.1))).trans (hHeld.2.2.2.2.2.2.2.1)
           have HS8_:=(hb.cell (World.block_lt_of_cell? _ _ (hHeld.2.2.2.2.2.2.2.2.1))).trans (hHeld.2.2.2.2.2.2.2.2.1)
           have HS9_:=(hb.cell (World.block_lt_of_cell? _ _ (hHeld.2.2.2.2.2.2.2.2.2.1))).trans (hHeld.2.2.2.2.2.2.2.2.2.1)
           have HS10_:=(hb.cell (World.block_lt_of_cell? _ _ (hHeld.2.2.2.2.2.2.2.2.2.2.1))).trans (hHeld.2.2.2.2.2.2.2.2.2.2.1)
           have HS11_:=(hb.cell (World.block_lt_of_cell? _ _ (hHeld.2.2.2.2.2.2.2.2.2.2.2.1))).trans (hHeld.2.2.2.2.2.2.2.2.2.2.2.1)
           have HS12_:=(hb.cell (World.block_lt_of_cell? _ _ (hHeld.2.2.2.2.2.2.2.2.2.2.2.2.1))).trans (hHeld.2.2.2.2.2.2.2.2.2.2.2.2.1)
           have HS13_:=(hb.cell (World.block_lt_of_cell? _ _ (hHeld.2.2.2.2.2.2.2.2.2.2.2.2.2.1))).trans (hHeld.2.2.2.2.2.2.2.2.2.2.2.2.2.1)
           have HS14_:=(hb.cell (World.block_lt_of_cell? _ _ (hHeld.2.2.2.2.2.2.2.2.2.2.2.2.2.2.1))).trans (hHeld.2.2.2.2.2.2.2.2.2.2.2.2.2.2.1)
           have HS15_:=(hb.cell (World.block_lt_of_cell? _ _ (hHeld.2.2.2.2.2.2.2.2.2.2.2.2.2.2.2.1))).trans (hHeld.2.2.2.2.2.2.2.2.2.2.2.2.2.2.2.1)
           have HS16_:=(hb.cell (World.block_lt_of_cell? _ _ (hHeld.2.2.2.2.2.2.2.2.2.2.2.2.2.2.2.2.1))).trans (hHeld.2.2.2.2.2.2.2.2.2.2.2.2.2.2.2.2.1)
           have HS17_:=(hb.cell (World.block_lt_of_cell? _ _ (hHeld.2.2.2.2.2.2.2.2.2.2.2.2.2.2.2.2.2.1))).trans (hHeld.2.2.2.2.2.2.2.2.2.2.2.2.2.2.2.2.2.1)
           have HS18_:=(hb.cell (World.block_lt_of_cell? _ _ (hHeld.2.2.2.2.2.2.2.2.2.2.2.2.2.2.2.2.2.2.1))).trans (hHeld.2.2.2.2.2.2.2.2.2.2.2.2.2.2.2.2.2.2.1)
           have HS19_:=(hb.cell (World.block_lt_of_cell? _ _ (hHeld.2.2.2.2.2.2.2.2.2.2.2.2.2.2.2.2.2.2.2.1))).trans (hHeld.2.2.2.2.2.2.2.2.2.2.2.2.2.2.2.2.2.2.2.1)
           have HS20_:=(hb.cell (World.block_lt_of_cell? _ _ (hHeld.2.2.2.2.2.2.2.2.2.2.2.2.2.2.2.2.2.2.2.2.1))).trans (hHeld.2.2.2.2.2.2.2.2.2.2.2.2.2.2.2.2.2.2.2.2.1)
           have HS21_:=(hb.cell (World.block_lt_of_cell? _ _ (hHeld.2.2.2.2.2.2.2.2.2.2.2.2.2.2.2.2.2.2.2.2.2.1))).trans (hHeld.2.2.2.2.2.2.2.2.2.2.2.2.2.2.2.2.2.2.2.2.2.1)
           have HS22_:=(hb.cell (World.block_lt_of_cell? _ _ (hHeld.2.2.2.2.2.2.2.2.2.2.2.2.2.2.2.2.2.2.2.2.2.2.1))).trans (hHeld.2.2.2.2.2.2.2.2.2.2.2.2.2.2.2.2.2.2.2.2.2.2.1)
           have HS23_:=(hb.cell (World.block_lt_of_cell? _ _ (hHeld.2.2.2.2.2.2.2.2.2.2.2.2.2.2.2.2.2.2.2.2.2.2.2.1))).trans (hHeld.2.2.2.2.2.2.2.2.2.2.2.2.2.2.2.2.2.2.2.2.2.2.2.1)
           have HS24_:=(hb.cell (World.block_lt_of_cell? _ _ (hHeld.2.2.2.2.2.2.2.2.2.2.2.2.2.2.2.2.2.2.2.2.2.2.2.2.1))).trans (hHeld.2.2.2.2.2.2.2.2.2.2.2.2.2.2.2.2.2.2.2.2.2.2.2.2.1)
           have HS25_:=(hb.cell (World.block_lt_of_cell? _ _ (hHeld.2.2.2.2.2.2.2.2.2.2.2.2.2.2.2.2.2.2.2.2.2.2.2.2.2.1))).trans (hHeld.2.2.2.2.2.2.2.2.2.2.2.2.2.2.2.2.2.2.2.2.2.2.2.2.2.1)
           have HS26_:=(hb.cell (World.block_lt_of_cell? _ _ (hHeld.2.2.2.2.2.2.2.2.2.2.2.2.2.2.2.2.2.2.2.2.2.2.2.2.2.2.1))).trans (hHeld.2.2.2.2.2.2.2.2.2.2.2.2.2.2.2.2.2.2.2.2.2.2.2.2.2.2.1)
           have HS27_:=(hb.cell (World.block_lt_of_cell? _ _ (hHeld.2.2.2.2.2.2.2.2.2.2.2.2.2.2.2.2.2.2.2.2.2.2.2.2.2.2.2.1))).trans (hHeld.2.2.2.2.2.2.2.2.2.2.2.2.2.2.2.2.2.2.2.2.2.2.2.2.2.2.2.1)
           have HS28_:=(hb.cell (World.block_lt_of_cell? _ _ (hHeld.2.2.2.2.2.2.2.2.2.2.2.2.2.2.2.2.2.2.2.2.2.2.2.2.2.2.2.2.1))).trans (hHeld.2.2.2.2.2.2.2.2.2.2.2.2.2.2.2.2.2.2.2.2.2.2.2.2.2.2.2.2.1)
           have HS29_:=(hb.cell (World.block_lt_of_cell? _ _ (hHeld.2.2.2.2.2.2.2.2.2.2.2.2.2.2.2.2.2.2.2.2.2.2.2.2.2.2.2.2.2))).trans (hHeld.2.2.2.2.2.2.2.2.2.2.2.2.2.2.2.2.2.2.2.2.2.2.2.2.2.2.2.2.2)
           refine ⟨_,rfl,?_⟩
           have n0_:=Aside0.mk (Kd.V_below (by (with_reducible repeat (first | apply Kd.V_alloc | apply Kd.V_drewN | apply Kd.V_drew)); exact HO_0.out) hb)
           have n1_:=Aside0.mk (Kd.V_below (by (with_reducible repeat (first | apply Kd.V_alloc | apply Kd.V_drewN | apply Kd.V_drew)); exact HO_1.out) hb)
           have n2_:=Aside0.mk (below_step (by repeat (first | (with_reducible first | exact HB.out | apply below_alloc | apply pw_below_drewN | apply below_drew1) | exact HB.out)) hb)
           clear HO_0
           clear HO_1
           clear HB
           have HO_0:=n0_
           have HO_1:=n1_
           have HB:=n2_
           clear n0_ n1_ n2_
           (try clear hb)
           (try clear hb2)
           (try clear hk)
           (try clear hi)
           refine hK.out _ _ ⟨HS0_,HS1_,HS2_,HS3_,HS4_,HS5_,HS6_,HS7_,HS8_,HS9_,HS10_,HS11_,HS12_,HS13_,HS14_,HS15_,HS16_,HS17_,HS18_,HS19_,HS20_,HS21_,HS22_,HS23_,HS24_,HS25_,HS26_,HS27_,HS28_,HS29_⟩ (fun hHeld => ?_)
           clear hK K
           refine norm_ (a':=?_) ?_ ?_
           rotate_left
           ·show Act.put _ (some 21) _ = _
            simp only [Act.put,List.setIfInBounds_toArray,List.set_cons_zero,List.set_cons_succ,i64_w,i32_w]
            rfl
           refine pure_ (i:=16) (N:=some 22) (v:=?_) (a':=?_) #[true,true,true,true,true,true,true,true,true,true,true,true,true,true,true,true,true] rfl rfl (any_of HT_.out (by kernel_rfl)) (fun _ _ _ h => h) (Or.inl ⟨by rfl,?_⟩) ?_ ?_
           rotate_left
           ·intro w'
            go_simp
            with_reducible rfl
           rotate_left
           ·simp only [Act.put,List.setIfInBounds_toArray,List.set_cons_zero,List.set_cons_succ,i64_w,i32_w]
            rfl
           refine done_ (done_of HT_.out (by kernel_rfl)) ?_
           try go_wp2
           have n0_:=Aside0.mk (Kd.V_drew HO_0.out)
           have n1_:=Aside0.mk (Kd.V_drew HO_1.out)
           have n2_:=Aside0.mk (below_drew1 HB.out)
           clear HO_0
           clear HO_1
           clear HB
           have HO_0:=n0_
           have HO_1:=n1_
           have HB:=n2_
           clear n0_ n1_ n2_
           have q17:(1:Int) ≤ ((x0_1.length:Int):Int):=of_decide_eq_true (by first | (with_reducible assumption) | assumption)
           obtain ⟨i017,hi017,_,hsz17,_⟩:=info_parts info39
           have hroom17:x0_1.length ≤ co13:=(Kd.V_reads' HO_0.out).2.1
           have hC17:Kd.F k39 _ _ (some ad154) x0_1.length x0_1:=(Kd.V_at (base:=w.heap.size) HO_0.out).2.2
           have hcut17:=cut_from (P:=Try.prog) 22 39 .i64 Try.underlying22 hi017 15 hsz17 (some ad154) x0_1.length co13 1 (by omega) q17
           have hr17:=Kd.F_cut (m:=(1:Int).toNat) (c:=co13) hC17 (by omega) hroom17
           obtain ⟨A17,hA17⟩:∃ A9_,A9_ = (if co13 = (1:Int).toNat then (some ad154) else ((some ad154):Option Addr).map (·.add ((1:Int).toNat * 15))):=⟨_,rfl⟩
           obtain ⟨c17,hc17⟩:∃ c9_,c9_ = co13 - (1:Int).toNat:=⟨_,rfl⟩
           have hy17:y157.length = x0_1.length - (1:Int).toNat:=(by rw [Ny157.out,List.length_drop] <;> omega)
           rw [show (x0_1).drop (1:Int).toNat = y157 from Ny157.out.symm] at hr17
           replace hr17:Kd.F k39 _ _ A17 y157.length y157:=(by rw [hA17]; exact hr17)
           rw [← hy17,← hA17,← hc17] at hcut17
           have HO161:=Aside0.mk (show Kd.V k39 39 _ w.heap.size _ (.slice A17 y157.length c17) y157 from Kd.V_mk (by rw [hy17,hc17]; exact Nat.sub_le_sub_right hroom17 _) hr17)
           have HC161:=Aside0.mk (show y157.length ≤ c17 from by rw [hy17,hc17]; exact Nat.sub_le_sub_right hroom17 _)
           clear hr17 hC17 hroom17 hi017 hsz17 hc17
           have KY17:=Aside0.mk hy17
           have KA17:=Aside0.mk hA17
           clear hy17 hA17
           replace q17:=eq_true q17
           have q18:(1:Int) ≤ ((x1_1.length:Int):Int):=of_decide_eq_true (by first | (with_reducible assumption) | assumption)
           obtain ⟨i018,hi018,_,hsz18,_⟩:=info_parts info39
           have hroom18:x1_1.length ≤ co14:=(Kd.V_reads' HO_1.out).2.1
           have hC18:Kd.F k39 _ _ (some ad155) x1_1.length x1_1:=(Kd.V_at (base:=w.heap.size) HO_1.out).2.2
           have hcut18:=cut_from (P:=Try.prog) 22 39 .i64 Try.underlying22 hi018 15 hsz18 (some ad155) x1_1.length co14 1 (by omega) q18
           have hr18:=Kd.F_cut (m:=(1:Int).toNat) (c:=co14) hC18 (by omega) hroom18
           obtain ⟨A18,hA18⟩:∃ A9_,A9_ = (if co14 = (1:Int).toNat then (some ad155) else ((some ad155):Option Addr).map (·.add ((1:Int).toNat * 15))):=⟨_,rfl⟩
           obtain ⟨c18,hc18⟩:∃ c9_,c9_ = co14 - (1:Int).toNat:=⟨_,rfl⟩
           have hy18:y162.length = x1_1.length - (1:Int).toNat:=(by rw [Ny162.out,List.length_drop] <;> omega)
           rw [show (x1_1).drop (1:Int).toNat = y162 from Ny162.out.symm] at hr18
           replace hr18:Kd.F k39 _ _ A18 y162.length y162:=(by rw [hA18]; exact hr18)
           rw [← hy18,← hA18,← hc18] at hcut18
           have HO166:=Aside0.mk (show Kd.V k39 39 _ w.heap.size _ (.slice A18 y162.length c18) y162 from Kd.V_mk (by rw [hy18,hc18]; exact Nat.sub_le_sub_right hroom18 _) hr18)
           have HC166:=Aside0.mk (show y162.length ≤ c18 from by rw [hy18,hc18]; exact Nat.sub_le_sub_right hroom18 _)
           clear hr18 hC18 hroom18 hi018 hsz18 hc18
           have KY18:=Aside0.mk hy18
           have KA18:=Aside0.mk hA18
           clear hy18 hA18
           replace q18:=eq_true q18
           refine start_ (n:=6) (S:=fun w' => True) (ds:=[]) #[false,false,false,false,false,false] (by kernel_rfl) rfl rfl trivial (fun hHeld => ?_)
           generalize w15.drew = w16 at HO_0 HO_1 HB HO161 HO166 hHeld ⊢
           refine pure_ (i:=0) (N:=some 23) (v:=?_) (a':=?_) #[true,false,false,false,false,false] rfl rfl (by kernel_rfl) (fun _ _ _ h => h) (Or.inl ⟨by rfl,?_⟩) ?_ ?_
           rotate_left
           ·intro w'
            go_simp
            with_reducible rfl
           rotate_left
           ·simp only [Act.put,List.setIfInBounds_toArray,List.set_cons_zero,List.set_cons_succ,i64_w,i32_w]
            rfl
           refine pure_ (i:=1) (N:=some 24) (v:=?_) (a':=?_) #[true,true,false,false,false,false] rfl rfl (by kernel_rfl) (fun _ _ _ h => h) (Or.inl ⟨by rfl,?_⟩) ?_ ?_
           rotate_left
           ·intro w'
            go_simp
            with_reducible rfl
           rotate_left
           ·simp only [Act.put,List.setIfInBounds_toArray,List.set_cons_zero,List.set_cons_succ,i64_w,i32_w]
            rfl
           refine pure_ (i:=2) (N:=some 25) (v:=?_) (a':=?_) #[true,true,true,false,false,false] rfl rfl (by kernel_rfl) (fun _ _ _ h => h) (Or.inl ⟨by rfl,?_⟩) ?_ ?_
           rotate_left
           ·intro w'
            go_simp
            with_reducible rfl
           rotate_left
           ·simp only [Act.put,List.setIfInBounds_toArray,List.set_cons_zero,List.set_cons_succ,i64_w,i32_w]
            rfl
           refine pure_ (i:=3) (N:=some 26) (v:=?_) (a':=?_) #[true,true,true,true,false,false] rfl rfl (by kernel_rfl) (fun _ _ _ h => h) (Or.inl ⟨by rfl,?_⟩) ?_ ?_
           rotate_left
           ·intro w'
            go_simp
            with_reducible rfl
           rotate_left
           ·simp only [Act.put,List.setIfInBounds_toArray,List.set_cons_zero,List.set_cons_succ,i64_w,i32_w]
            rfl
           refine pure_ (i:=4) (N:=some 0) (v:=?_) (a':=?_) #[true,true,true,true,true,false] rfl rfl (by kernel_rfl) (fun _ _ _ h => h) (Or.inl ⟨by rfl,?_⟩) ?_ ?_
           rotate_left
           ·intro w'
            go_simp
            with_reducible rfl
           rotate_left
           ·simp only [Act.put,List.setIfInBounds_toArray,List.set_cons_zero,List.set_cons_succ,i64_w,i32_w]
            rfl
           refine pure_ (i:=5) (N:=some 1) (v:=?_) (a':=?_) #[true,true,true,true,true,true] rfl rfl (by kernel_rfl) (fun _ _ _ h => h) (Or.inl ⟨by rfl,?_⟩) ?_ ?_
           rotate_left
           ·intro w'
            go_simp
            with_reducible rfl
           rotate_left
           ·simp only [Act.put,List.setIfInBounds_toArray,List.set_cons_zero,List.set_cons_succ,i64_w,i32_w]
            rfl
           refine done_ (by kernel_rfl) ?_
           try go_wp2
           go_roundg k1
           case measure => have:=HK1.out; omega
           case rel => exact ⟨(y157),(y162),H',⟨by have:=HK1.out; omega⟩,⟨by (with_reducible repeat (first | apply Kd.V_alloc | apply Kd.V_drewN | apply Kd.V_drew)); exact HO161.out⟩,⟨by (with_reducible repeat (first | apply Kd.V_alloc | apply Kd.V_drewN | apply Kd.V_drew)); exact HO166.out⟩,⟨by repeat (first | (with_reducible first | exact HB.out | apply below_alloc | apply pw_below_drewN | apply below_drew1) | exact HB.out)⟩⟩
          ·rw [if_neg c11] at H
           exact absurd H (by simp)
         ·rw [if_neg c10] at H
          exact absurd H (by simp)
        ·replace c9:=Bool.eq_false_iff.mpr c9
         subst c9
         have H1:(harm_Parts.j1 k1 x0_1 x1_1) = some (r1,r2):=by rw [if_neg (show ¬ (false = true) by decide)] at H; exact H
         clear H
         have H:=H1
         clear H1
         have H':=Aside0.mk H
         clear H
         try go_wp2
         have n0_:=Aside0.mk (Kd.V_drew HO_0.out)
         have n1_:=Aside0.mk (Kd.V_drew HO_1.out)
         have n2_:=Aside0.mk (below_drew1 HB.out)
         clear HO_0
         clear HO_1
         clear HB
         have HO_0:=n0_
         have HO_1:=n1_
         have HB:=n2_
         clear n0_ n1_ n2_
         obtain ⟨Ao20,co20,eo20⟩:=Kd.V_slice HO_0.out
         (first | subst eo20 | (injection eo20 with f1_ f2_ f3_; have f4_:=f1_.symm; have f5_:=f3_.symm; clear f1_ f2_ f3_; subst f4_; subst f5_))
         obtain ⟨Ao21,co21,eo21⟩:=Kd.V_slice HO_1.out
         (first | subst eo21 | (injection eo21 with f1_ f2_ f3_; have f4_:=f1_.symm; have f5_:=f3_.symm; clear f1_ f2_ f3_; subst f4_; subst f5_))
         have p154:0 ≤ (0:Int):=(by omega)
         have q154:0 < (x0_1.length:Int):=of_decide_eq_true (by first | (with_reducible assumption) | assumption)
         obtain ⟨ad154,e154,hx154_0,hx154_1,hx154_2,hx154_3,hx154_4,hx154_5,hx154_6,hx154_7,hx154_8,hx154_9,hx154_10,hx154_11,hx154_12,hx154_13,hx154_14⟩:=at_T39 (Kd.V_reads' HO_0.out).2.2 0 p154 q154
         cases e154
         have qi154:(0 < x0_1.length) = True:=eq_true (by omega)
         (try rw [show ((0:Int)).toNat = 0 from rfl] at hx154_0)
         (try rw [show 0 * 15 = 0 from rfl] at hx154_0)
         (try rw [Addr.add_zero'] at hx154_0)
         (try rw [show ((0:Int)).toNat = 0 from rfl] at hx154_1)
         (try rw [show 0 * 15 = 0 from rfl] at hx154_1)
         (try rw [Addr.add_zero'] at hx154_1)
         (try rw [show ((0:Int)).toNat = 0 from rfl] at hx154_2)
         (try rw [show 0 * 15 = 0 from rfl] at hx154_2)
         (try rw [Addr.add_zero'] at hx154_2)
         (try rw [show ((0:Int)).toNat = 0 from rfl] at hx154_3)
         (try rw [show 0 * 15 = 0 from rfl] at hx154_3)
         (try rw [Addr.add_zero'] at hx154_3)
         (try rw [show ((0:Int)).toNat = 0 from rfl] at hx154_4)
         (try rw [show 0 * 15 = 0 from rfl] at hx154_4)
         (try rw [Addr.add_zero'] at hx154_4)
         (try rw [show ((0:Int)).toNat = 0 from rfl] at hx154_5)
         (try rw [show 0 * 15 = 0 from rfl] at hx154_5)
         (try rw [Addr.add_zero'] at hx154_5)
         (try rw [show ((0:Int)).toNat = 0 from rfl] at hx154_6)
         (try rw [show 0 * 15 = 0 from rfl] at hx154_6)
         (try rw [Addr.add_zero'] at hx154_6)
         (try rw [show ((0:Int)).toNat = 0 from rfl] at hx154_7)
         (try rw [show 0 * 15 = 0 from rfl] at hx154_7)
         (try rw [Addr.add_zero'] at hx154_7)
         (try rw [show ((0:Int)).toNat = 0 from rfl] at hx154_8)
         (try rw [show 0 * 15 = 0 from rfl] at hx154_8)
         (try rw [Addr.add_zero'] at hx154_8)
         (try rw [show ((0:Int)).toNat = 0 from rfl] at hx154_9)
         (try rw [show 0 * 15 = 0 from rfl] at hx154_9)
         (try rw [Addr.add_zero'] at hx154_9)
         (try rw [show ((0:Int)).toNat = 0 from rfl] at hx154_10)
         (try rw [show 0 * 15 = 0 from rfl] at hx154_10)
         (try rw [Addr.add_zero'] at hx154_10)
         (try rw [show ((0:Int)).toNat = 0 from rfl] at hx154_11)
         (try rw [show 0 * 15 = 0 from rfl] at hx154_11)
         (try rw [Addr.add_zero'] at hx154_11)
         (try rw [show ((0:Int)).toNat = 0 from rfl] at hx154_12)
         (try rw [show 0 * 15 = 0 from rfl] at hx154_12)
         (try rw [Addr.add_zero'] at hx154_12)
         (try rw [show ((0:Int)).toNat = 0 from rfl] at hx154_13)
         (try rw [show 0 * 15 = 0 from rfl] at hx154_13)
         (try rw [Addr.add_zero'] at hx154_13)
         (try rw [show ((0:Int)).toNat = 0 from rfl] at hx154_14)
         (try rw [show 0 * 15 = 0 from rfl] at hx154_14)
         (try rw [Addr.add_zero'] at hx154_14)
         replace p154:=eq_true p154
         replace q154:=eq_true q154
         have p155:0 ≤ (0:Int):=(by omega)
         have q155:0 < (x1_1.length:Int):=of_decide_eq_true (by first | (with_reducible assumption) | assumption)
         obtain ⟨ad155,e155,hx155_0,hx155_1,hx155_2,hx155_3,hx155_4,hx155_5,hx155_6,hx155_7,hx155_8,hx155_9,hx155_10,hx155_11,hx155_12,hx155_13,hx155_14⟩:=at_T39 (Kd.V_reads' HO_1.out).2.2 0 p155 q155
         cases e155
         have qi155:(0 < x1_1.length) = True:=eq_true (by omega)
         (try rw [show ((0:Int)).toNat = 0 from rfl] at hx155_0)
         (try rw [show 0 * 15 = 0 from rfl] at hx155_0)
         (try rw [Addr.add_zero'] at hx155_0)
         (try rw [show ((0:Int)).toNat = 0 from rfl] at hx155_1)
         (try rw [show 0 * 15 = 0 from rfl] at hx155_1)
         (try rw [Addr.add_zero'] at hx155_1)
         (try rw [show ((0:Int)).toNat = 0 from rfl] at hx155_2)
         (try rw [show 0 * 15 = 0 from rfl] at hx155_2)
         (try rw [Addr.add_zero'] at hx155_2)
         (try rw [show ((0:Int)).toNat = 0 from rfl] at hx155_3)
         (try rw [show 0 * 15 = 0 from rfl] at hx155_3)
         (try rw [Addr.add_zero'] at hx155_3)
         (try rw [show ((0:Int)).toNat = 0 from rfl] at hx155_4)
         (try rw [show 0 * 15 = 0 from rfl] at hx155_4)
         (try rw [Addr.add_zero'] at hx155_4)
         (try rw [show ((0:Int)).toNat = 0 from rfl] at hx155_5)
         (try rw [show 0 * 15 = 0 from rfl] at hx155_5)
         (try rw [Addr.add_zero'] at hx155_5)
         (try rw [show ((0:Int)).toNat = 0 from rfl] at hx155_6)
         (try rw [show 0 * 15 = 0 from rfl] at hx155_6)
         (try rw [Addr.add_zero'] at hx155_6)
         (try rw [show ((0:Int)).toNat = 0 from rfl] at hx155_7)
         (try rw [show 0 * 15 = 0 from rfl] at hx155_7)
         (try rw [Addr.add_zero'] at hx155_7)
         (try rw [show ((0:Int)).toNat = 0 from rfl] at hx155_8)
         (try rw [show 0 * 15 = 0 from rfl] at hx155_8)
         (try rw [Addr.add_zero'] at hx155_8)
         (try rw [show ((0:Int)).toNat = 0 from rfl] at hx155_9)
         (try rw [show 0 * 15 = 0 from rfl] at hx155_9)
         (try rw [Addr.add_zero'] at hx155_9)
         (try rw [show ((0:Int)).toNat = 0 from rfl] at hx155_10)
         (try rw [show 0 * 15 = 0 from rfl] at hx155_10)
         (try rw [Addr.add_zero'] at hx155_10)
         (try rw [show ((0:Int)).toNat = 0 from rfl] at hx155_11)
         (try rw [show 0 * 15 = 0 from rfl] at hx155_11)
         (try rw [Addr.add_zero'] at hx155_11)
         (try rw [show ((0:Int)).toNat = 0 from rfl] at hx155_12)
         (try rw [show 0 * 15 = 0 from rfl] at hx155_12)
         (try rw [Addr.add_zero'] at hx155_12)
         (try rw [show ((0:Int)).toNat = 0 from rfl] at hx155_13)
         (try rw [show 0 * 15 = 0 from rfl] at hx155_13)
         (try rw [Addr.add_zero'] at hx155_13)
         (try rw [show ((0:Int)).toNat = 0 from rfl] at hx155_14)
         (try rw [show 0 * 15 = 0 from rfl] at hx155_14)
         (try rw [Addr.add_zero'] at hx155_14)
         replace p155:=eq_true p155
         replace q155:=eq_true q155
         refine start_ (n:=17) (S:=fun w' => w'.cell? ad154 = some (.int .i64 ((rd_T39 x0_1 0).f0)) ∧ w'.cell? ⟨ad154.block,ad154.off + 1,none⟩ = some (.int .i64 ((rd_T39 x0_1 0).f1)) ∧ w'.cell? ⟨ad154.block,ad154.off + 2,none⟩ = some (.int .i64 ((rd_T39 x0_1 0).f2.f0)) ∧ w'.cell? ⟨ad154.block,ad154.off + 3,none⟩ = some (.int .i64 ((rd_T39 x0_1 0).f2.f1)) ∧ w'.cell? ⟨ad154.block,ad154.off + 4,none⟩ = some (.int .i64 ((rd_T39 x0_1 0).f2.f2)) ∧ w'.cell? ⟨ad154.block,ad154.off + 5,none⟩ = some (.int .i64 ((rd_T39 x0_1 0).f2.f3)) ∧ w'.cell? ⟨ad154.block,ad154.off + 6,none⟩ = some (.int .i64 ((rd_T39 x0_1 0).f3.f0)) ∧ w'.cell? ⟨ad154.block,ad154.off + 7,none⟩ = some (.int .i64 ((rd_T39 x0_1 0).f3.f1)) ∧ w'.cell? ⟨ad154.block,ad154.off + 8,none⟩ = some (.int .i64 ((rd_T39 x0_1 0).f3.f2)) ∧ w'.cell? ⟨ad154.block,ad154.off + 9,none⟩ = some (.int .i64 ((rd_T39 x0_1 0).f3.f3)) ∧ w'.cell? ⟨ad154.block,ad154.off + 10,none⟩ = some (.int .i64 ((rd_T39 x0_1 0).f4.f0)) ∧ w'.cell? ⟨ad154.block,ad154.off + 11,none⟩ = some (.int .i64 ((rd_T39 x0_1 0).f4.f1)) ∧ w'.cell? ⟨ad154.block,ad154.off + 12,none⟩ = some (.int .i64 ((rd_T39 x0_1 0).f4.f2)) ∧ w'.cell? ⟨ad154.block,ad154.off + 13,none⟩ = some (.int .i64 ((rd_T39 x0_1 0).f4.f3)) ∧ w'.cell? ⟨ad154.block,ad154.off + 14,none⟩ = some (.int .i64 ((rd_T39 x0_1 0).f5)) ∧ w'.cell? ad155 = some (.int .i64 ((rd_T39 x1_1 0).f0)) ∧ w'.cell? ⟨ad155.block,ad155.off + 1,none⟩ = some (.int .i64 ((rd_T39 x1_1 0).f1)) ∧ w'.cell? ⟨ad155.block,ad155.off + 2,none⟩ = some (.int .i64 ((rd_T39 x1_1 0).f2.f0)) ∧ w'.cell? ⟨ad155.block,ad155.off + 3,none⟩ = some (.int .i64 ((rd_T39 x1_1 0).f2.f1)) ∧ w'.cell? ⟨ad155.block,ad155.off + 4,none⟩ = some (.int .i64 ((rd_T39 x1_1 0).f2.f2)) ∧ w'.cell? ⟨ad155.block,ad155.off + 5,none⟩ = some (.int .i64 ((rd_T39 x1_1 0).f2.f3)) ∧ w'.cell? ⟨ad155.block,ad155.off + 6,none⟩ = some (.int .i64 ((rd_T39 x1_1 0).f3.f0)) ∧ w'.cell? ⟨ad155.block,ad155.off + 7,none⟩ = some (.int .i64 ((rd_T39 x1_1 0).f3.f1)) ∧ w'.cell? ⟨ad155.block,ad155.off + 8,none⟩ = some (.int .i64 ((rd_T39 x1_1 0).f3.f2)) ∧ w'.cell? ⟨ad155.block,ad155.off + 9,none⟩ = some (.int .i64 ((rd_T39 x1_1 0).f3.f3)) ∧ w'.cell? ⟨ad155.block,ad155.off + 10,none⟩ = some (.int .i64 ((rd_T39 x1_1 0).f4.f0)) ∧ w'.cell? ⟨ad155.block,ad155.off + 11,none⟩ = some (.int .i64 ((rd_T39 x1_1 0).f4.f1)) ∧ w'.cell? ⟨ad155.block,ad155.off + 12,none⟩ = some (.int .i64 ((rd_T39 x1_1 0).f4.f2)) ∧ w'.cell? ⟨ad155.block,ad155.off + 13,none⟩ = some (.int .i64 ((rd_T39 x1_1 0).f4.f3)) ∧ w'.cell? ⟨ad155.block,ad155.off + 14,none⟩ = some (.int .i64 ((rd_T39 x1_1 0).f5))) (ds:=[]) #[false,false,false,false,false,false,false,false,false,false,false,false,false,false,false,false,false] (by kernel_rfl) rfl rfl ⟨hx154_0,hx154_1,hx154_2,hx154_3,hx154_4,hx154_5,hx154_6,hx154_7,hx154_8,hx154_9,hx154_10,hx154_11,hx154_12,hx154_13,hx154_14,hx155_0,hx155_1,hx155_2,hx155_3,hx155_4,hx155_5,hx155_6,hx155_7,hx155_8,hx155_9,hx155_10,hx155_11,hx155_12,hx155_13,hx155_14⟩ (fun hHeld => ?_); refine with_tabW harm_Parts.tab1 harm_Parts.bits1 (fun HT_ HW_ => ?_)
         generalize wr.drew = w19 at HO_0 HO_1 HB hx154_0 hx154_1 hx154_10 hx154_11 hx154_12 hx154_13 hx154_14 hx154_2 hx154_3 hx154_4 hx154_5 hx154_6 hx154_7 hx154_8 hx154_9 hx155_0 hx155_1 hx155_10 hx155_11 hx155_12 hx155_13 hx155_14 hx155_2 hx155_3 hx155_4 hx155_5 hx155_6 hx155_7 hx155_8 hx155_9 hHeld ⊢
         refine pure_ (i:=0) (N:=some 6) (v:=?_) (a':=?_) #[true,false,false,false,false,false,false,false,false,false,false,false,false,false,false,false,false] rfl rfl (any_of HT_.out (by kernel_rfl)) (fun _ _ _ h => h) (Or.inl ⟨by rfl,?_⟩) ?_ ?_
         rotate_left
         ·intro w'
          go_simp
          with_reducible rfl
         rotate_left
         ·simp only [Act.put,List.setIfInBounds_toArray,List.set_cons_zero,List.set_cons_succ,i64_w,i32_w]
          rfl
         refine pure_ (i:=1) (N:=some 7) (v:=?_) (a':=?_) #[true,true,false,false,false,false,false,false,false,false,false,false,false,false,false,false,false] rfl rfl (any_of HT_.out (by kernel_rfl)) (fun _ _ _ h => h) (Or.inl ⟨by rfl,?_⟩) ?_ ?_
         rotate_left
         ·intro w'
          go_simp
          with_reducible rfl
         rotate_left
         ·simp only [Act.put,List.setIfInBounds_toArray,List.set_cons_zero,List.set_cons_succ,i64_w,i32_w]
          rfl
         refine pure_ (i:=2) (N:=some 8) (v:=?_) (a':=?_) #[true,true,true,false,false,false,false,false,false,false,false,false,false,false,false,false,false] rfl rfl (any_of HT_.out (by kernel_rfl)) (fun _ _ _ h => h) (Or.inl ⟨by rfl,?_⟩) ?_ ?_
         rotate_left
         ·intro w'
          go_simp
          with_reducible rfl
         rotate_left
         ·simp only [Act.put,List.setIfInBounds_toArray,List.set_cons_zero,List.set_cons_succ,i64_w,i32_w]
          rfl
         refine pure_ (i:=3) (N:=some 9) (v:=?_) (a':=?_) #[true,true,true,true,false,false,false,false,false,false,false,false,false,false,false,false,false] rfl rfl (any_of HT_.out (by kernel_rfl)) (fun _ _ _ h => h) (Or.inl ⟨by rfl,?_⟩) ?_ ?_
         rotate_left
         ·intro w'
          go_simp
          with_reducible rfl
         rotate_left
         ·simp only [Act.put,List.setIfInBounds_toArray,List.set_cons_zero,List.set_cons_succ,i64_w,i32_w]
          rfl
         refine pure_ (i:=4) (N:=some 10) (v:=?_) (a':=?_) #[true,true,true,true,true,false,false,false,false,false,false,false,false,false,false,false,false] rfl rfl (any_of HT_.out (by kernel_rfl)) (fun _ _ _ h => h) (Or.inl ⟨by rfl,?_⟩) ?_ ?_
         rotate_left
         ·intro w'
          go_simp
          with_reducible rfl
         rotate_left
         ·simp only [Act.put,List.setIfInBounds_toArray,List.set_cons_zero,List.set_cons_succ,i64_w,i32_w]
          rfl
         refine pure_ (i:=5) (N:=some 11) (v:=?_) (a':=?_) #[true,true,true,true,true,true,false,false,false,false,false,false,false,false,false,false,false] rfl rfl (any_of HT_.out (by kernel_rfl)) (fun _ _ _ h => h) (Or.inl ⟨by rfl,?_⟩) ?_ ?_
         rotate_left
         ·intro w'
          go_simp
          with_reducible rfl
         rotate_left
         ·simp only [Act.put,List.setIfInBounds_toArray,List.set_cons_zero,List.set_cons_succ,i64_w,i32_w]
          rfl
         refine pure_ (i:=6) (N:=some 12) (v:=?_) (a':=?_) #[true,true,true,true,true,true,true,false,false,false,false,false,false,false,false,false,false] rfl rfl (any_of HT_.out (by kernel_rfl)) (fun _ _ _ h => h) (Or.inl ⟨by rfl,?_⟩) ?_ ?_
         rotate_left
         ·intro w'
          go_simp
          with_reducible rfl
         rotate_left
         ·simp only [Act.put,List.setIfInBounds_toArray,List.set_cons_zero,List.set_cons_succ,i64_w,i32_w]
          rfl
         refine pure_ (i:=7) (N:=some 13) (v:=?_) (a':=?_) #[true,true,true,true,true,true,true,true,false,false,false,false,false,false,false,false,false] rfl rfl (any_of HT_.out (by kernel_rfl)) (fun _ _ _ h => h) (Or.inl ⟨by rfl,?_⟩) ?_ ?_
         rotate_left
         ·intro w'
          go_simp
          with_reducible rfl
         rotate_left
         ·simp only [Act.put,List.setIfInBounds_toArray,List.set_cons_zero,List.set_cons_succ,i64_w,i32_w]
          rfl
         refine pure_ (i:=8) (N:=some 14) (v:=?_) (a':=?_) #[true,true,true,true,true,true,true,true,true,false,false,false,false,false,false,false,false] rfl rfl (any_of HT_.out (by kernel_rfl)) (fun _ _ _ h => h) (Or.inl ⟨by rfl,?_⟩) ?_ ?_
         rotate_left
         ·intro w'
          go_simp
          with_reducible rfl
         rotate_left
         ·simp only [Act.put,List.setIfInBounds_toArray,List.set_cons_zero,List.set_cons_succ,i64_w,i32_w]
          rfl
         refine pure_ (i:=9) (N:=some 15) (v:=?_) (a':=?_) #[true,true,true,true,true,true,true,true,true,true,false,false,false,false,false,false,false] rfl rfl (any_of HT_.out (by kernel_rfl)) (fun _ _ _ h => h) (Or.inl ⟨by rfl,?_⟩) ?_ ?_
         rotate_left
         ·intro w'
          go_simp
          with_reducible rfl
         rotate_left
         ·simp only [Act.put,List.setIfInBounds_toArray,List.set_cons_zero,List.set_cons_succ,i64_w,i32_w]
          rfl
         refine pure_ (i:=10) (N:=some 16) (v:=?_) (a':=?_) #[true,true,true,true,true,true,true,true,true,true,true,false,false,false,false,false,false] rfl rfl (any_of HT_.out (by kernel_rfl)) (fun _ _ _ h => h) (Or.inl ⟨by rfl,?_⟩) ?_ ?_
         rotate_left
         ·intro w'
          go_simp
          with_reducible rfl
         rotate_left
         ·simp only [Act.put,List.setIfInBounds_toArray,List.set_cons_zero,List.set_cons_succ,i64_w,i32_w]
          rfl
         refine pure_ (i:=12) (N:=some 18) (v:=?_) (a':=?_) #[true,true,true,true,true,true,true,true,true,true,true,false,true,false,false,false,false] rfl rfl (any_of HT_.out (by kernel_rfl)) (fun _ _ _ h => h) (Or.inl ⟨by rfl,?_⟩) ?_ ?_
         rotate_left
         ·intro w'
          go_simp
          with_reducible rfl
         rotate_left
         ·simp only [Act.put,List.setIfInBounds_toArray,List.set_cons_zero,List.set_cons_succ,i64_w,i32_w]
          rfl
         refine pure_ (i:=13) (N:=some 19) (v:=?_) (a':=?_) #[true,true,true,true,true,true,true,true,true,true,true,false,true,true,false,false,false] rfl rfl (any_of HT_.out (by kernel_rfl)) (fun _ _ _ h => h) (Or.inl ⟨by rfl,?_⟩) ?_ ?_
         rotate_left
         ·intro w'
          go_simp
          with_reducible rfl
         rotate_left
         ·simp only [Act.put,List.setIfInBounds_toArray,List.set_cons_zero,List.set_cons_succ,i64_w,i32_w]
          rfl
         refine take_ (i:=11) (N:=some 17) (v:=?_) (a':=?_) #[true,true,true,true,true,true,true,true,true,true,true,true,true,true,false,false,false] rfl rfl (take_ofW HT_.out HW_.out (by kernel_rfl)) (fun _ _ _ h => h) (Or.inl ⟨by rfl,?_⟩) hHeld ?_ ?_
         rotate_left
         ·rintro w' ⟨s0,s1,s2,s3,s4,s5,s6,s7,s8,s9,s10,s11,s12,s13,s14,s15,s16,s17,s18,s19,s20,s21,s22,s23,s24,s25,s26,s27,s28,s29⟩
          go_simp
          with_reducible rfl
         rotate_left
         ·simp only [Act.put,List.setIfInBounds_toArray,List.set_cons_zero,List.set_cons_succ,i64_w,i32_w]
          rfl
         refine take_ (i:=14) (N:=some 20) (v:=?_) (a':=?_) #[true,true,true,true,true,true,true,true,true,true,true,true,true,true,true,false,false] rfl rfl (take_ofW HT_.out HW_.out (by kernel_rfl)) (fun _ _ _ h => h) (Or.inl ⟨by rfl,?_⟩) hHeld ?_ ?_
         rotate_left
         ·rintro w' ⟨s0,s1,s2,s3,s4,s5,s6,s7,s8,s9,s10,s11,s12,s13,s14,s15,s16,s17,s18,s19,s20,s21,s22,s23,s24,s25,s26,s27,s28,s29⟩
          go_simp
          with_reducible rfl
         rotate_left
         ·simp only [Act.put,List.setIfInBounds_toArray,List.set_cons_zero,List.set_cons_succ,i64_w,i32_w]
          rfl
         refine one_ (i:=15) (N:=some 21) #[true,true,true,true,true,true,true,true,true,true,true,true,true,true,true,true,false] rfl rfl (one_of HT_.out (by kernel_rfl)) (by decide) (fun K hK => ?_)
         refine goes_ Try.func24 (by kernel_rfl) rfl #[.agg #[.int .i64 ((rd_T39 x0_1 0).f0),.int .i64 ((rd_T39 x0_1 0).f1),.int .i64 ((rd_T39 x0_1 0).f2.f0),.int .i64 ((rd_T39 x0_1 0).f2.f1),.int .i64 ((rd_T39 x0_1 0).f2.f2),.int .i64 ((rd_T39 x0_1 0).f2.f3),.int .i64 ((rd_T39 x0_1 0).f3.f0),.int .i64 ((rd_T39 x0_1 0).f3.f1),.int .i64 ((rd_T39 x0_1 0).f3.f2),.int .i64 ((rd_T39 x0_1 0).f3.f3),.int .i64 ((rd_T39 x0_1 0).f4.f0),.int .i64 ((rd_T39 x0_1 0).f4.f1),.int .i64 ((rd_T39 x0_1 0).f4.f2),.int .i64 ((rd_T39 x0_1 0).f4.f3),.int .i64 ((rd_T39 x0_1 0).f5)],.agg #[.int .i64 ((rd_T39 x1_1 0).f0),.int .i64 ((rd_T39 x1_1 0).f1),.int .i64 ((rd_T39 x1_1 0).f2.f0),.int .i64 ((rd_T39 x1_1 0).f2.f1),.int .i64 ((rd_T39 x1_1 0).f2.f2),.int .i64 ((rd_T39 x1_1 0).f2.f3),.int .i64 ((rd_T39 x1_1 0).f3.f0),.int .i64 ((rd_T39 x1_1 0).f3.f1),.int .i64 ((rd_T39 x1_1 0).f3.f2),.int .i64 ((rd_T39 x1_1 0).f3.f3),.int .i64 ((rd_T39 x1_1 0).f4.f0),.int .i64 ((rd_T39 x1_1 0).f4.f1),.int .i64 ((rd_T39 x1_1 0).f4.f2),.int .i64 ((rd_T39 x1_1 0).f4.f3),.int .i64 ((rd_T39 x1_1 0).f5)]] (by rfl) rfl rfl (by (try simp only [List.map_toArray,List.map_cons,List.map_nil]); first | done | rfl | (simp only [List.length_drop,List.length_take]; rfl)) ?_
         with_reducible refine (harm_Alike.calls ((rd_T39 x0_1 0).f0) ((rd_T39 x0_1 0).f1) ((rd_T39 x0_1 0).f2.f0) ((rd_T39 x0_1 0).f2.f1) ((rd_T39 x0_1 0).f2.f2) ((rd_T39 x0_1 0).f2.f3) ((rd_T39 x0_1 0).f3.f0) ((rd_T39 x0_1 0).f3.f1) ((rd_T39 x0_1 0).f3.f2) ((rd_T39 x0_1 0).f3.f3) ((rd_T39 x0_1 0).f4.f0) ((rd_T39 x0_1 0).f4.f1) ((rd_T39 x0_1 0).f4.f2) ((rd_T39 x0_1 0).f4.f3) ((rd_T39 x0_1 0).f5) ((rd_T39 x1_1 0).f0) ((rd_T39 x1_1 0).f1) ((rd_T39 x1_1 0).f2.f0) ((rd_T39 x1_1 0).f2.f1) ((rd_T39 x1_1 0).f2.f2) ((rd_T39 x1_1 0).f2.f3) ((rd_T39 x1_1 0).f3.f0) ((rd_T39 x1_1 0).f3.f1) ((rd_T39 x1_1 0).f3.f2) ((rd_T39 x1_1 0).f3.f3) ((rd_T39 x1_1 0).f4.f0) ((rd_T39 x1_1 0).f4.f1) ((rd_T39 x1_1 0).f4.f2) ((rd_T39 x1_1 0).f4.f3) ((rd_T39 x1_1 0).f5) false _ A8.out).mono ?_
         rintro e w22 ⟨rfl,hb⟩
         have HS0_:=(hb.cell (World.block_lt_of_cell? _ _ (hHeld.1))).trans (hHeld.1)
         have HS1_:=(hb.cell (World.block_lt_of_cell? _ _ (hHeld.2.1))).trans (hHeld.2.1)
         have HS2_:=(hb.cell (World.block_lt_of_cell? _ _ (hHeld.2.2.1))).trans (hHeld.2.2.1)
         have HS3_:=(hb.cell (World.block_lt_of_cell? _ _ (hHeld.2.2.2.1))).trans (hHeld.2.2.2.1)
         have HS4_:=(hb.cell (World.block_lt_of_cell? _ _ (hHeld.2.2.2.2.1))).trans (hHeld.2.2.2.2.1)
         have HS5_:=(hb.cell (World.block_lt_of_cell? _ _ (hHeld.2.2.2.2.2.1))).trans (hHeld.2.2.2.2.2.1)
         have HS6_:=(hb.cell (World.block_lt_of_cell? _ _ (hHeld.2.2.2.2.2.2.1))).trans (hHeld.2.2.2.2.2.2.1)
         have HS7_:=(hb.cell (World.block_lt_of_cell? _ _ (hHeld.2.2.2.2.2.2.2.1))).trans (hHeld.2.2.2.2.2.2.2.1)
         have HS8_:=(hb.cell (World.block_lt_of_cell? _ _ (hHeld.2.2.2.2.2.2.2.2.1))).trans (hHeld.2.2.2.2.2.2.2.2.1)
         have HS9_:=(hb.cell (World.block_lt_of_cell? _ _ (hHeld.2.2.2.2.2.2.2.2.2.1))).trans (hHeld.2.2.2.2.2.2.2.2.2.1)
         have HS10_:=(hb.cell (World.block_lt_of_cell? _ _ (hHeld.2.2.2.2.2.2.2.2.2.2.1))).trans (hHeld.2.2.2.2.2.2.2.2.2.2.1)
         have HS11_:=(hb.cell (World.block_lt_of_cell? _ _ (hHeld.2.2.2.2.2.2.2.2.2.2.2.1))).trans (hHeld.2.2.2.2.2.2.2.2.2.2.2.1)
         have HS12_:=(hb.cell (World.block_lt_of_cell? _ _ (hHeld.2.2.2.2.2.2.2.2.2.2.2.2.1))).trans (hHeld.2.2.2.2.2.2.2.2.2.2.2.2.1)
         have HS13_:=(hb.cell (World.block_lt_of_cell? _ _ (hHeld.2.2.2.2.2.2.2.2.2.2.2.2.2.1))).trans (hHeld.2.2.2.2.2.2.2.2.2.2.2.2.2.1)
         have HS14_:=(hb.cell (World.block_lt_of_cell? _ _ (hHeld.2.2.2.2.2.2.2.2.2.2.2.2.2.2.1))).trans (hHeld.2.2.2.2.2.2.2.2.2.2.2.2.2.2.1)
         have HS15_:=(hb.cell (World.block_lt_of_cell? _ _ (hHeld.2.2.2.2.2.2.2.2.2.2.2.2.2.2.2.1))).trans (hHeld.2.2.2.2.2.2.2.2.2.2.2.2.2.2.2.1)
         have HS16_:=(hb.cell (World.block_lt_of_cell? _ _ (hHeld.2.2.2.2.2.2.2.2.2.2.2.2.2.2.2.2.1))).trans (hHeld.2.2.2.2.2.2.2.2.2.2.2.2.2.2.2.2.1)
         have HS17_:=(hb.cell (World.block_lt_of_cell? _ _ (hHeld.2.2.2.2.2.2.2.2.2.2.2.2.2.2.2.2.2.1))).trans (hHeld.2.2.2.2.2.2.2.2.2.2.2.2.2.2.2.2.2.1)
         have HS18_:=(hb.cell (World.block_lt_of_cell? _ _ (hHeld.2.2.2.2.2.2.2.2.2.2.2.2.2.2.2.2.2.2.1))).trans (hHeld.2.2.2.2.2.2.2.2.2.2.2.2.2.2.2.2.2.2.1)
         have HS19_:=(hb.cell (World.block_lt_of_cell? _ _ (hHeld.2.2.2.2.2.2.2.2.2.2.2.2.2.2.2.2.2.2.2.1))).trans (hHeld.2.2.2.2.2.2.2.2.2.2.2.2.2.2.2.2.2.2.2.1)
         have HS20_:=(hb.cell (World.block_lt_of_cell? _ _ (hHeld.2.2.2.2.2.2.2.2.2.2.2.2.2.2.2.2.2.2.2.2.1))).trans (hHeld.2.2.2.2.2.2.2.2.2.2.2.2.2.2.2.2.2.2.2.2.1)
         have HS21_:=(hb.cell (World.block_lt_of_cell? _ _ (hHeld.2.2.2.2.2.2.2.2.2.2.2.2.2.2.2.2.2.2.2.2.2.1))).trans (hHeld.2.2.2.2.2.2.2.2.2.2.2.2.2.2.2.2.2.2.2.2.2.1)
         have HS22_:=(hb.cell (World.block_lt_of_cell? _ _ (hHeld.2.2.2.2.2.2.2.2.2.2.2.2.2.2.2.2.2.2.2.2.2.2.1))).trans (hHeld.2.2.2.2.2.2.2.2.2.2.2.2.2.2.2.2.2.2.2.2.2.2.1)
         have HS23_:=(hb.cell (World.block_lt_of_cell? _ _ (hHeld.2.2.2.2.2.2.2.2.2.2.2.2.2.2.2.2.2.2.2.2.2.2.2.1))).trans (hHeld.2.2.2.2.2.2.2.2.2.2.2.2.2.2.2.2.2.2.2.2.2.2.2.1)
         have HS24_:=(hb.cell (World.block_lt_of_cell? _ _ (hHeld.2.2.2.2.2.2.2.2.2.2.2.2.2.2.2.2.2.2.2.2.2.2.2.2.1))).trans (hHeld.2.2.2.2.2.2.2.2.2.2.2.2.2.2.2.2.2.2.2.2.2.2.2.2.1)
         have HS25_:=(hb.cell (World.block_lt_of_cell? _ _ (hHeld.2.2.2.2.2.2.2.2.2.2.2.2.2.2.2.2.2.2.2.2.2.2.2.2.2.1))).trans (hHeld.2.2.2.2.2.2.2.2.2.2.2.2.2.2.2.2.2.2.2.2.2.2.2.2.2.1)
         have HS26_:=(hb.cell (World.block_lt_of_cell? _ _ (hHeld.2.2.2.2.2.2.2.2.2.2.2.2.2.2.2.2.2.2.2.2.2.2.2.2.2.2.1))).trans (hHeld.2.2.2.2.2.2.2.2.2.2.2.2.2.2.2.2.2.2.2.2.2.2.2.2.2.2.1)
         have HS27_:=(hb.cell (World.block_lt_of_cell? _ _ (hHeld.2.2.2.2.2.2.2.2.2.2.2.2.2.2.2.2.2.2.2.2.2.2.2.2.2.2.2.1))).trans (hHeld.2.2.2.2.2.2.2.2.2.2.2.2.2.2.2.2.2.2.2.2.2.2.2.2.2.2.2.1)
         have HS28_:=(hb.cell (World.block_lt_of_cell? _ _ (hHeld.2.2.2.2.2.2.2.2.2.2.2.2.2.2.2.2.2.2.2.2.2.2.2.2.2.2.2.2.1))).trans (hHeld.2.2.2.2.2.2.2.2.2.2.2.2.2.2.2.2.2.2.2.2.2.2.2.2.2.2.2.2.1)
         have HS29_:=(hb.cell (World.block_lt_of_cell? _ _ (hHeld.2.2.2.2.2.2.2.2.2.2.2.2.2.2.2.2.2.2.2.2.2.2.2.2.2.2.2.2.2))).trans (hHeld.2.2.2.2.2.2.2.2.2.2.2.2.2.2.2.2.2.2.2.2.2.2.2.2.2.2.2.2.2)
         refine ⟨_,rfl,?_⟩
         have n0_:=Aside0.mk (Kd.V_below (by (with_reducible repeat (first | apply Kd.V_alloc | apply Kd.V_drewN | apply Kd.V_drew)); exact HO_0.out) hb)
         have n1_:=Aside0.mk (Kd.V_below (by (with_reducible repeat (first | apply Kd.V_alloc | apply Kd.V_drewN | apply Kd.V_drew)); exact HO_1.out) hb)
         have n2_:=Aside0.mk (below_step (by repeat (first | (with_reducible first | exact HB.out | apply below_alloc | apply pw_below_drewN | apply below_drew1) | exact HB.out)) hb)
         clear HO_0
         clear HO_1
         clear HB
         have HO_0:=n0_
         have HO_1:=n1_
         have HB:=n2_
         clear n0_ n1_ n2_
         (try clear hb)
         (try clear hb2)
         (try clear hk)
         (try clear hi)
         refine hK.out _ _ ⟨HS0_,HS1_,HS2_,HS3_,HS4_,HS5_,HS6_,HS7_,HS8_,HS9_,HS10_,HS11_,HS12_,HS13_,HS14_,HS15_,HS16_,HS17_,HS18_,HS19_,HS20_,HS21_,HS22_,HS23_,HS24_,HS25_,HS26_,HS27_,HS28_,HS29_⟩ (fun hHeld => ?_)
         clear hK K
         refine norm_ (a':=?_) ?_ ?_
         rotate_left
         ·show Act.put _ (some 21) _ = _
          simp only [Act.put,List.setIfInBounds_toArray,List.set_cons_zero,List.set_cons_succ,i64_w,i32_w]
          rfl
         refine pure_ (i:=16) (N:=some 22) (v:=?_) (a':=?_) #[true,true,true,true,true,true,true,true,true,true,true,true,true,true,true,true,true] rfl rfl (any_of HT_.out (by kernel_rfl)) (fun _ _ _ h => h) (Or.inl ⟨by rfl,?_⟩) ?_ ?_
         rotate_left
         ·intro w'
          go_simp
          with_reducible rfl
         rotate_left
         ·simp only [Act.put,List.setIfInBounds_toArray,List.set_cons_zero,List.set_cons_succ,i64_w,i32_w]
          rfl
         refine done_ (done_of HT_.out (by kernel_rfl)) ?_
         try go_wp2
         go_meet
         case rel => exact ⟨_,(x0_1),(x1_1),H',⟨by have:=HK1.out; first | omega | exact Nat.le_refl _⟩,⟨by (with_reducible repeat (first | apply Kd.V_alloc | apply Kd.V_drewN | apply Kd.V_drew)); exact HO_0.out⟩,⟨by (with_reducible repeat (first | apply Kd.V_alloc | apply Kd.V_drewN | apply Kd.V_drew)); exact HO_1.out⟩,⟨by repeat (first | (with_reducible first | exact HB.out | apply below_alloc | apply pw_below_drewN | apply below_drew1) | exact HB.out)⟩⟩
       ·rw [if_neg c7] at H
        exact absurd H (by simp)
      ·rw [if_neg c6] at H
       exact absurd H (by simp)
     ·rw [if_neg c5] at H
      have c5b0:decide (0 < (x1_1.length:Int)) = false:=decide_eq_false c5
      have c5b1:decide (0 < x1_1.length) = false:=decide_eq_false (by omega)
      clear c5
      have H':=Aside0.mk H
      clear H
      try go_wp2
      have n0_:=Aside0.mk (Kd.V_drew HO_0.out)
      have n1_:=Aside0.mk (Kd.V_drew HO_1.out)
      have n2_:=Aside0.mk (below_drew1 HB.out)
      clear HO_0
      clear HO_1
      clear HB
      have HO_0:=n0_
      have HO_1:=n1_
      have HB:=n2_
      clear n0_ n1_ n2_
      obtain ⟨Ao24,co24,eo24⟩:=Kd.V_slice HO_0.out
      (first | subst eo24 | (injection eo24 with f1_ f2_ f3_; have f4_:=f1_.symm; have f5_:=f3_.symm; clear f1_ f2_ f3_; subst f4_; subst f5_))
      obtain ⟨Ao25,co25,eo25⟩:=Kd.V_slice HO_1.out
      (first | subst eo25 | (injection eo25 with f1_ f2_ f3_; have f4_:=f1_.symm; have f5_:=f3_.symm; clear f1_ f2_ f3_; subst f4_; subst f5_))
      refine start_ (n:=17) (S:=fun w' => True) (ds:=[]) #[false,false,false,false,false,false,false,false,false,false,false,false,false,false,false,false,false] (by kernel_rfl) rfl rfl trivial (fun hHeld => ?_); refine with_tabW harm_Parts.tab1 harm_Parts.bits1 (fun HT_ HW_ => ?_)
      generalize wr.drew = w23 at HO_0 HO_1 HB hHeld ⊢
      refine pure_ (i:=0) (N:=some 6) (v:=?_) (a':=?_) #[true,false,false,false,false,false,false,false,false,false,false,false,false,false,false,false,false] rfl rfl (any_of HT_.out (by kernel_rfl)) (fun _ _ _ h => h) (Or.inl ⟨by rfl,?_⟩) ?_ ?_
      rotate_left
      ·intro w'
       go_simp
       with_reducible rfl
      rotate_left
      ·simp only [Act.put,List.setIfInBounds_toArray,List.set_cons_zero,List.set_cons_succ,i64_w,i32_w]
       rfl
      refine pure_ (i:=1) (N:=some 7) (v:=?_) (a':=?_) #[true,true,false,false,false,false,false,false,false,false,false,false,false,false,false,false,false] rfl rfl (any_of HT_.out (by kernel_rfl)) (fun _ _ _ h => h) (Or.inl ⟨by rfl,?_⟩) ?_ ?_
      rotate_left
      ·intro w'
       go_simp
       with_reducible rfl
      rotate_left
      ·simp only [Act.put,List.setIfInBounds_toArray,List.set_cons_zero,List.set_cons_succ,i64_w,i32_w]
       rfl
      refine pure_ (i:=2) (N:=some 8) (v:=?_) (a':=?_) #[true,true,true,false,false,false,false,false,false,false,false,false,false,false,false,false,false] rfl rfl (any_of HT_.out (by kernel_rfl)) (fun _ _ _ h => h) (Or.inl ⟨by rfl,?_⟩) ?_ ?_
      rotate_left
      ·intro w'
       go_simp
       with_reducible rfl
      rotate_left
      ·simp only [Act.put,List.setIfInBounds_toArray,List.set_cons_zero,List.set_cons_succ,i64_w,i32_w]
       rfl
      refine pure_ (i:=3) (N:=some 9) (v:=?_) (a':=?_) #[true,true,true,true,false,false,false,false,false,false,false,false,false,false,false,false,false] rfl rfl (any_of HT_.out (by kernel_rfl)) (fun _ _ _ h => h) (Or.inl ⟨by rfl,?_⟩) ?_ ?_
      rotate_left
      ·intro w'
       go_simp
       with_reducible rfl
      rotate_left
      ·simp only [Act.put,List.setIfInBounds_toArray,List.set_cons_zero,List.set_cons_succ,i64_w,i32_w]
       rfl
      refine pure_ (i:=4) (N:=some 10) (v:=?_) (a':=?_) #[true,true,true,true,true,false,false,false,false,false,false,false,false,false,false,false,false] rfl rfl (any_of HT_.out (by kernel_rfl)) (fun _ _ _ h => h) (Or.inl ⟨by rfl,?_⟩) ?_ ?_
      rotate_left
      ·intro w'
       go_simp
       with_reducible rfl
      rotate_left
      ·simp only [Act.put,List.setIfInBounds_toArray,List.set_cons_zero,List.set_cons_succ,i64_w,i32_w]
       rfl
      refine pure_ (i:=5) (N:=some 11) (v:=?_) (a':=?_) #[true,true,true,true,true,true,false,false,false,false,false,false,false,false,false,false,false] rfl rfl (any_of HT_.out (by kernel_rfl)) (fun _ _ _ h => h) (Or.inl ⟨by rfl,?_⟩) ?_ ?_
      rotate_left
      ·intro w'
       go_simp
       with_reducible rfl
      rotate_left
      ·simp only [Act.put,List.setIfInBounds_toArray,List.set_cons_zero,List.set_cons_succ,i64_w,i32_w]
       rfl
      refine pure_ (i:=6) (N:=some 12) (v:=?_) (a':=?_) #[true,true,true,true,true,true,true,false,false,false,false,false,false,false,false,false,false] rfl rfl (any_of HT_.out (by kernel_rfl)) (fun _ _ _ h => h) (Or.inl ⟨by rfl,?_⟩) ?_ ?_
      rotate_left
      ·intro w'
       go_simp
       with_reducible rfl
      rotate_left
      ·simp only [Act.put,List.setIfInBounds_toArray,List.set_cons_zero,List.set_cons_succ,i64_w,i32_w]
       rfl
      refine pure_ (i:=7) (N:=some 13) (v:=?_) (a':=?_) #[true,true,true,true,true,true,true,true,false,false,false,false,false,false,false,false,false] rfl rfl (any_of HT_.out (by kernel_rfl)) (fun _ _ _ h => h) (Or.inl ⟨by rfl,?_⟩) ?_ ?_
      rotate_left
      ·intro w'
       go_simp
       with_reducible rfl
      rotate_left
      ·simp only [Act.put,List.setIfInBounds_toArray,List.set_cons_zero,List.set_cons_succ,i64_w,i32_w]
       rfl
      refine pure_ (i:=8) (N:=some 14) (v:=?_) (a':=?_) #[true,true,true,true,true,true,true,true,true,false,false,false,false,false,false,false,false] rfl rfl (any_of HT_.out (by kernel_rfl)) (fun _ _ _ h => h) (Or.inl ⟨by rfl,?_⟩) ?_ ?_
      rotate_left
      ·intro w'
       go_simp
       with_reducible rfl
      rotate_left
      ·simp only [Act.put,List.setIfInBounds_toArray,List.set_cons_zero,List.set_cons_succ,i64_w,i32_w]
       rfl
      refine pure_ (i:=9) (N:=some 15) (v:=undef) (a':=?_) #[true,true,true,true,true,true,true,true,true,true,false,false,false,false,false,false,false] rfl rfl (any_of HT_.out (by kernel_rfl)) (fun _ _ _ h => h) (Or.inr ⟨by rfl,rfl⟩) ?_ ?_
      rotate_left
      ·simp only [Act.put,List.setIfInBounds_toArray,List.set_cons_zero,List.set_cons_succ,i64_w,i32_w]
       rfl
      refine pure_ (i:=10) (N:=some 16) (v:=undef) (a':=?_) #[true,true,true,true,true,true,true,true,true,true,true,false,false,false,false,false,false] rfl rfl (any_of HT_.out (by kernel_rfl)) (fun _ _ _ h => h) (Or.inr ⟨by rfl,rfl⟩) ?_ ?_
      rotate_left
      ·simp only [Act.put,List.setIfInBounds_toArray,List.set_cons_zero,List.set_cons_succ,i64_w,i32_w]
       rfl
      refine pure_ (i:=11) (N:=some 17) (v:=undef) (a':=?_) #[true,true,true,true,true,true,true,true,true,true,true,true,false,false,false,false,false] rfl rfl (any_of HT_.out (by kernel_rfl)) (fun _ _ _ h => h) (Or.inr ⟨by rfl,rfl⟩) ?_ ?_
      rotate_left
      ·simp only [Act.put,List.setIfInBounds_toArray,List.set_cons_zero,List.set_cons_succ,i64_w,i32_w]
       rfl
      refine pure_ (i:=12) (N:=some 18) (v:=undef) (a':=?_) #[true,true,true,true,true,true,true,true,true,true,true,true,true,false,false,false,false] rfl rfl (any_of HT_.out (by kernel_rfl)) (fun _ _ _ h => h) (Or.inr ⟨by rfl,rfl⟩) ?_ ?_
      rotate_left
      ·simp only [Act.put,List.setIfInBounds_toArray,List.set_cons_zero,List.set_cons_succ,i64_w,i32_w]
       rfl
      refine pure_ (i:=13) (N:=some 19) (v:=undef) (a':=?_) #[true,true,true,true,true,true,true,true,true,true,true,true,true,true,false,false,false] rfl rfl (any_of HT_.out (by kernel_rfl)) (fun _ _ _ h => h) (Or.inr ⟨by rfl,rfl⟩) ?_ ?_
      rotate_left
      ·simp only [Act.put,List.setIfInBounds_toArray,List.set_cons_zero,List.set_cons_succ,i64_w,i32_w]
       rfl
      refine pure_ (i:=14) (N:=some 20) (v:=undef) (a':=?_) #[true,true,true,true,true,true,true,true,true,true,true,true,true,true,true,false,false] rfl rfl (any_of HT_.out (by kernel_rfl)) (fun _ _ _ h => h) (Or.inr ⟨by rfl,rfl⟩) ?_ ?_
      rotate_left
      ·simp only [Act.put,List.setIfInBounds_toArray,List.set_cons_zero,List.set_cons_succ,i64_w,i32_w]
       rfl
      refine pure_ (i:=15) (N:=some 21) (v:=undef) (a':=?_) #[true,true,true,true,true,true,true,true,true,true,true,true,true,true,true,true,false] rfl rfl (any_of HT_.out (by kernel_rfl)) (fun _ _ _ h => h) (Or.inr ⟨by rfl,rfl⟩) ?_ ?_
      rotate_left
      ·simp only [Act.put,List.setIfInBounds_toArray,List.set_cons_zero,List.set_cons_succ,i64_w,i32_w]
       rfl
      refine pure_ (i:=16) (N:=some 22) (v:=?_) (a':=?_) #[true,true,true,true,true,true,true,true,true,true,true,true,true,true,true,true,true] rfl rfl (any_of HT_.out (by kernel_rfl)) (fun _ _ _ h => h) (Or.inl ⟨by rfl,?_⟩) ?_ ?_
      rotate_left
      ·intro w'
       go_simp
       with_reducible rfl
      rotate_left
      ·simp only [Act.put,List.setIfInBounds_toArray,List.set_cons_zero,List.set_cons_succ,i64_w,i32_w]
       rfl
      refine done_ (done_of HT_.out (by kernel_rfl)) ?_
      try go_wp2
      go_meet
      case rel => exact ⟨_,(x0_1),(x1_1),H',⟨by have:=HK1.out; first | omega | exact Nat.le_refl _⟩,⟨by (with_reducible repeat (first | apply Kd.V_alloc | apply Kd.V_drewN | apply Kd.V_drew)); exact HO_0.out⟩,⟨by (with_reducible repeat (first | apply Kd.V_alloc | apply Kd.V_drewN | apply Kd.V_drew)); exact HO_1.out⟩,⟨by repeat (first | (with_reducible first | exact HB.out | apply below_alloc | apply pw_below_drewN | apply below_drew1) | exact HB.out)⟩⟩
    ·rw [if_neg c4] at H
     have c4b0:decide (0 < (x0_1.length:Int)) = false:=decide_eq_false c4
     have c4b1:decide (0 < x0_1.length) = false:=decide_eq_false (by omega)
     clear c4
     (first | rw [c4b0] | (simp only [i64_w,i32_w]; rw [c4b0]) | skip)
     have H':=Aside0.mk H
     clear H
     try go_wp2
     have n0_:=Aside0.mk (Kd.V_drew HO_0.out)
     have n1_:=Aside0.mk (Kd.V_drew HO_1.out)
     have n2_:=Aside0.mk (below_drew1 HB.out)
     clear HO_0
     clear HO_1
     clear HB
     have HO_0:=n0_
     have HO_1:=n1_
     have HB:=n2_
     clear n0_ n1_ n2_
     obtain ⟨Ao27,co27,eo27⟩:=Kd.V_slice HO_0.out
     (first | subst eo27 | (injection eo27 with f1_ f2_ f3_; have f4_:=f1_.symm; have f5_:=f3_.symm; clear f1_ f2_ f3_; subst f4_; subst f5_))
     refine start_ (n:=17) (S:=fun w' => True) (ds:=[]) #[false,false,false,false,false,false,false,false,false,false,false,false,false,false,false,false,false] (by kernel_rfl) rfl rfl trivial (fun hHeld => ?_); refine with_tabW harm_Parts.tab1 harm_Parts.bits1 (fun HT_ HW_ => ?_)
     generalize wr.drew = w26 at HO_0 HO_1 HB hHeld ⊢
     refine pure_ (i:=0) (N:=some 6) (v:=?_) (a':=?_) #[true,false,false,false,false,false,false,false,false,false,false,false,false,false,false,false,false] rfl rfl (any_of HT_.out (by kernel_rfl)) (fun _ _ _ h => h) (Or.inl ⟨by rfl,?_⟩) ?_ ?_
     rotate_left
     ·intro w'
      go_simp
      with_reducible rfl
     rotate_left
     ·simp only [Act.put,List.setIfInBounds_toArray,List.set_cons_zero,List.set_cons_succ,i64_w,i32_w]
      rfl
     refine pure_ (i:=1) (N:=some 7) (v:=?_) (a':=?_) #[true,true,false,false,false,false,false,false,false,false,false,false,false,false,false,false,false] rfl rfl (any_of HT_.out (by kernel_rfl)) (fun _ _ _ h => h) (Or.inl ⟨by rfl,?_⟩) ?_ ?_
     rotate_left
     ·intro w'
      go_simp
      with_reducible rfl
     rotate_left
     ·simp only [Act.put,List.setIfInBounds_toArray,List.set_cons_zero,List.set_cons_succ,i64_w,i32_w]
      rfl
     refine pure_ (i:=2) (N:=some 8) (v:=?_) (a':=?_) #[true,true,true,false,false,false,false,false,false,false,false,false,false,false,false,false,false] rfl rfl (any_of HT_.out (by kernel_rfl)) (fun _ _ _ h => h) (Or.inl ⟨by rfl,?_⟩) ?_ ?_
     rotate_left
     ·intro w'
      go_simp
      with_reducible rfl
     rotate_left
     ·simp only [Act.put,List.setIfInBounds_toArray,List.set_cons_zero,List.set_cons_succ,i64_w,i32_w]
      rfl
     refine pure_ (i:=3) (N:=some 9) (v:=?_) (a':=?_) #[true,true,true,true,false,false,false,false,false,false,false,false,false,false,false,false,false] rfl rfl (any_of HT_.out (by kernel_rfl)) (fun _ _ _ h => h) (Or.inl ⟨by rfl,?_⟩) ?_ ?_
     rotate_left
     ·intro w'
      go_simp
      with_reducible rfl
     rotate_left
     ·simp only [Act.put,List.setIfInBounds_toArray,List.set_cons_zero,List.set_cons_succ,i64_w,i32_w]
      rfl
     refine pure_ (i:=4) (N:=some 10) (v:=undef) (a':=?_) #[true,true,true,true,true,false,false,false,false,false,false,false,false,false,false,false,false] rfl rfl (any_of HT_.out (by kernel_rfl)) (fun _ _ _ h => h) (Or.inr ⟨by rfl,rfl⟩) ?_ ?_
     rotate_left
     ·simp only [Act.put,List.setIfInBounds_toArray,List.set_cons_zero,List.set_cons_succ,i64_w,i32_w]
      rfl
     refine pure_ (i:=5) (N:=some 11) (v:=undef) (a':=?_) #[true,true,true,true,true,true,false,false,false,false,false,false,false,false,false,false,false] rfl rfl (any_of HT_.out (by kernel_rfl)) (fun _ _ _ h => h) (Or.inr ⟨by rfl,rfl⟩) ?_ ?_
     rotate_left
     ·simp only [Act.put,List.setIfInBounds_toArray,List.set_cons_zero,List.set_cons_succ,i64_w,i32_w]
      rfl
     refine pure_ (i:=6) (N:=some 12) (v:=undef) (a':=?_) #[true,true,true,true,true,true,true,false,false,false,false,false,false,false,false,false,false] rfl rfl (any_of HT_.out (by kernel_rfl)) (fun _ _ _ h => h) (Or.inr ⟨by rfl,rfl⟩) ?_ ?_
     rotate_left
     ·simp only [Act.put,List.setIfInBounds_toArray,List.set_cons_zero,List.set_cons_succ,i64_w,i32_w]
      rfl
     refine pure_ (i:=7) (N:=some 13) (v:=?_) (a':=?_) #[true,true,true,true,true,true,true,true,false,false,false,false,false,false,false,false,false] rfl rfl (any_of HT_.out (by kernel_rfl)) (fun _ _ _ h => h) (Or.inl ⟨by rfl,?_⟩) ?_ ?_
     rotate_left
     ·intro w'
      go_simp
      with_reducible rfl
     rotate_left
     ·simp only [Act.put,List.setIfInBounds_toArray,List.set_cons_zero,List.set_cons_succ,i64_w,i32_w]
      rfl
     refine pure_ (i:=8) (N:=some 14) (v:=?_) (a':=?_) #[true,true,true,true,true,true,true,true,true,false,false,false,false,false,false,false,false] rfl rfl (any_of HT_.out (by kernel_rfl)) (fun _ _ _ h => h) (Or.inl ⟨by rfl,?_⟩) ?_ ?_
     rotate_left
     ·intro w'
      go_simp
      with_reducible rfl
     rotate_left
     ·simp only [Act.put,List.setIfInBounds_toArray,List.set_cons_zero,List.set_cons_succ,i64_w,i32_w]
      rfl
     refine pure_ (i:=9) (N:=some 15) (v:=undef) (a':=?_) #[true,true,true,true,true,true,true,true,true,true,false,false,false,false,false,false,false] rfl rfl (any_of HT_.out (by kernel_rfl)) (fun _ _ _ h => h) (Or.inr ⟨by rfl,rfl⟩) ?_ ?_
     rotate_left
     ·simp only [Act.put,List.setIfInBounds_toArray,List.set_cons_zero,List.set_cons_succ,i64_w,i32_w]
      rfl
     refine pure_ (i:=10) (N:=some 16) (v:=undef) (a':=?_) #[true,true,true,true,true,true,true,true,true,true,true,false,false,false,false,false,false] rfl rfl (any_of HT_.out (by kernel_rfl)) (fun _ _ _ h => h) (Or.inr ⟨by rfl,rfl⟩) ?_ ?_
     rotate_left
     ·simp only [Act.put,List.setIfInBounds_toArray,List.set_cons_zero,List.set_cons_succ,i64_w,i32_w]
      rfl
     refine pure_ (i:=11) (N:=some 17) (v:=undef) (a':=?_) #[true,true,true,true,true,true,true,true,true,true,true,true,false,false,false,false,false] rfl rfl (any_of HT_.out (by kernel_rfl)) (fun _ _ _ h => h) (Or.inr ⟨by rfl,rfl⟩) ?_ ?_
     rotate_left
     ·simp only [Act.put,List.setIfInBounds_toArray,List.set_cons_zero,List.set_cons_succ,i64_w,i32_w]
      rfl
     refine pure_ (i:=12) (N:=some 18) (v:=undef) (a':=?_) #[true,true,true,true,true,true,true,true,true,true,true,true,true,false,false,false,false] rfl rfl (any_of HT_.out (by kernel_rfl)) (fun _ _ _ h => h) (Or.inr ⟨by rfl,rfl⟩) ?_ ?_
     rotate_left
     ·simp only [Act.put,List.setIfInBounds_toArray,List.set_cons_zero,List.set_cons_succ,i64_w,i32_w]
      rfl
     refine pure_ (i:=13) (N:=some 19) (v:=undef) (a':=?_) #[true,true,true,true,true,true,true,true,true,true,true,true,true,true,false,false,false] rfl rfl (any_of HT_.out (by kernel_rfl)) (fun _ _ _ h => h) (Or.inr ⟨by rfl,rfl⟩) ?_ ?_
     rotate_left
     ·simp only [Act.put,List.setIfInBounds_toArray,List.set_cons_zero,List.set_cons_succ,i64_w,i32_w]
      rfl
     refine pure_ (i:=14) (N:=some 20) (v:=undef) (a':=?_) #[true,true,true,true,true,true,true,true,true,true,true,true,true,true,true,false,false] rfl rfl (any_of HT_.out (by kernel_rfl)) (fun _ _ _ h => h) (Or.inr ⟨by rfl,rfl⟩) ?_ ?_
     rotate_left
     ·simp only [Act.put,List.setIfInBounds_toArray,List.set_cons_zero,List.set_cons_succ,i64_w,i32_w]
      rfl
     refine pure_ (i:=15) (N:=some 21) (v:=undef) (a':=?_) #[true,true,true,true,true,true,true,true,true,true,true,true,true,true,true,true,false] rfl rfl (any_of HT_.out (by kernel_rfl)) (fun _ _ _ h => h) (Or.inr ⟨by rfl,rfl⟩) ?_ ?_
     rotate_left
     ·simp only [Act.put,List.setIfInBounds_toArray,List.set_cons_zero,List.set_cons_succ,i64_w,i32_w]
      rfl
     refine pure_ (i:=16) (N:=some 22) (v:=?_) (a':=?_) #[true,true,true,true,true,true,true,true,true,true,true,true,true,true,true,true,true] rfl rfl (any_of HT_.out (by kernel_rfl)) (fun _ _ _ h => h) (Or.inl ⟨by rfl,?_⟩) ?_ ?_
     rotate_left
     ·intro w'
      go_simp
      with_reducible rfl
     rotate_left
     ·simp only [Act.put,List.setIfInBounds_toArray,List.set_cons_zero,List.set_cons_succ,i64_w,i32_w]
      rfl
     refine done_ (done_of HT_.out (by kernel_rfl)) ?_
     try go_wp2
     go_meet
     case rel => exact ⟨_,(x0_1),(x1_1),H',⟨by have:=HK1.out; first | omega | exact Nat.le_refl _⟩,⟨by (with_reducible repeat (first | apply Kd.V_alloc | apply Kd.V_drewN | apply Kd.V_drew)); exact HO_0.out⟩,⟨by (with_reducible repeat (first | apply Kd.V_alloc | apply Kd.V_drewN | apply Kd.V_drew)); exact HO_1.out⟩,⟨by repeat (first | (with_reducible first | exact HB.out | apply below_alloc | apply pw_below_drewN | apply below_drew1) | exact HB.out)⟩⟩
 case rest =>
  as_aux_lemma =>
   clear HC3
   try clear c1
   try clear p1
   try clear q1
   try clear hx1
   try clear qi1
   try clear c2
   try clear p2
   try clear c4
   try clear c4b0
   try clear c4b1
   try clear c5
   try clear c5b0
   try clear c5b1
   try clear c6
   try clear c7
   try clear c9
   try clear c10
   try clear c11
   try clear p15
   try clear q15
   try clear hx15
   try clear qi15
   try clear c24
   try clear hx154_0
   try clear hx154_1
   try clear hx154_10
   try clear hx154_11
   try clear hx154_12
   try clear hx154_13
   try clear hx154_14
   try clear hx154_2
   try clear hx154_3
   try clear hx154_4
   try clear hx154_5
   try clear hx154_6
   try clear hx154_7
   try clear hx154_8
   try clear hx154_9
   try clear hx155_0
   try clear hx155_1
   try clear hx155_10
   try clear hx155_11
   try clear hx155_12
   try clear hx155_13
   try clear hx155_14
   try clear hx155_2
   try clear hx155_3
   try clear hx155_4
   try clear hx155_5
   try clear hx155_6
   try clear hx155_7
   try clear hx155_8
   try clear hx155_9
   try clear p154
   try clear p155
   try clear q154
   try clear q155
   obtain ⟨kq,x0_2,x1_2,HA,HJ2,HO_0,HO_1,HB⟩:=hcut
   cases kq with
   | zero => exact absurd HA.out (by simp [harm_Parts.j1])
   | succ kj2 =>
    have H:=HA.out
    clear HA
    simp only [harm_Parts.j1] at H
    have H':=Aside0.mk H
    clear H
    go_wp2
    go_loopg [0,1] kj2 (fun kq v0 v1 w' => ∃ (x0_2:List (S39)) (x1_2:List (S39)),Aside0 (harm_Parts.l1 kq x0_2 x1_2 = some (r1,r2)) ∧ Aside0 (kq ≤ kj2) ∧ Aside0 (Kd.V k39 39 w' w.heap.size (fun k_ => ((P0_ k_ ∨ P1_ k_) ∨ w.heap.size ≤ k_)) v0 x0_2) ∧ Aside0 (Kd.V k39 39 w' w.heap.size (fun k_ => ((P0_ k_ ∨ P1_ k_) ∨ w.heap.size ≤ k_)) v1 x1_2) ∧ Aside0 (Below w.heap.size w w'))
    case atStart => exact ⟨(x0_2),(x1_2),H',⟨Nat.le_refl _⟩,⟨by (with_reducible repeat (first | apply Kd.V_alloc | apply Kd.V_drewN | apply Kd.V_drew)); exact HO_0.out⟩,⟨by (with_reducible repeat (first | apply Kd.V_alloc | apply Kd.V_drewN | apply Kd.V_drew)); exact HO_1.out⟩,⟨by repeat (first | (with_reducible first | exact HB.out | apply below_alloc | apply pw_below_drewN | apply below_drew1) | exact HB.out)⟩⟩
    case round =>
     clear H'
     try clear c1
     try clear p1
     try clear q1
     try clear hx1
     try clear qi1
     try clear c2
     try clear p2
     try clear c4
     try clear c4b0
     try clear c4b1
     try clear c5
     try clear c5b0
     try clear c5b1
     try clear c6
     try clear c7
     try clear c9
     try clear c10
     try clear c11
     try clear p15
     try clear q15
     try clear hx15
     try clear qi15
     try clear c24
     try clear hx154_0
     try clear hx154_1
     try clear hx154_10
     try clear hx154_11
     try clear hx154_12
     try clear hx154_13
     try clear hx154_14
     try clear hx154_2
     try clear hx154_3
     try clear hx154_4
     try clear hx154_5
     try clear hx154_6
     try clear hx154_7
     try clear hx154_8
     try clear hx154_9
     try clear hx155_0
     try clear hx155_1
     try clear hx155_10
     try clear hx155_11
     try clear hx155_12
     try clear hx155_13
     try clear hx155_14
     try clear hx155_2
     try clear hx155_3
     try clear hx155_4
     try clear hx155_5
     try clear hx155_6
     try clear hx155_7
     try clear hx155_8
     try clear hx155_9
     try clear p1
     try clear p15
     try clear p154
     try clear p155
     try clear p2
     try clear q1
     try clear q15
     try clear q154
     try clear q155
     obtain ⟨x0_2,x1_2,HA,HK2,HO_0,HO_1,HB⟩:=hrel
     cases gk with
     | zero => exact absurd HA.out (by simp [harm_Parts.l1])
     | succ k2 =>
      have H:=HA.out
      clear HA
      simp only [harm_Parts.l1] at H
      by_cases c28:(x0_2.length:Int) > 0
      ·rw [if_pos c28] at H
       have c28b0:decide (0 < (x0_2.length:Int)) = true:=decide_eq_true c28
       have c28b1:decide (0 < x0_2.length) = true:=decide_eq_true (by omega)
       clear c28
       by_cases c29:(x1_2.length:Int) > 0
       ·rw [if_pos c29] at H
        have c29b0:decide (0 < (x1_2.length:Int)) = true:=decide_eq_true c29
        have c29b1:decide (0 < x1_2.length) = true:=decide_eq_true (by omega)
        clear c29
        obtain ⟨ji30,hji30⟩:∃ j_:Int,(wrap64 ((x0_2.length:Int) - 1)) = j_:=⟨_,rfl⟩
        replace H:(if 0 ≤ (ji30) then (if (ji30) < (x0_2.length:Int) then (if 0 ≤ (wrap64 ((x1_2.length:Int) - 1)) then (if (wrap64 ((x1_2.length:Int) - 1)) < (x1_2.length:Int) then ((harm_Alike.f ((rd_T39 x0_2 (ji30)).f0) ((rd_T39 x0_2 (ji30)).f1) ((rd_T39 x0_2 (ji30)).f2.f0) ((rd_T39 x0_2 (ji30)).f2.f1) ((rd_T39 x0_2 (ji30)).f2.f2) ((rd_T39 x0_2 (ji30)).f2.f3) ((rd_T39 x0_2 (ji30)).f3.f0) ((rd_T39 x0_2 (ji30)).f3.f1) ((rd_T39 x0_2 (ji30)).f3.f2) ((rd_T39 x0_2 (ji30)).f3.f3) ((rd_T39 x0_2 (ji30)).f4.f0) ((rd_T39 x0_2 (ji30)).f4.f1) ((rd_T39 x0_2 (ji30)).f4.f2) ((rd_T39 x0_2 (ji30)).f4.f3) ((rd_T39 x0_2 (ji30)).f5) ((rd_T39 x1_2 (wrap64 ((x1_2.length:Int) - 1))).f0) ((rd_T39 x1_2 (wrap64 ((x1_2.length:Int) - 1))).f1) ((rd_T39 x1_2 (wrap64 ((x1_2.length:Int) - 1))).f2.f0) ((rd_T39 x1_2 (wrap64 ((x1_2.length:Int) - 1))).f2.f1) ((rd_T39 x1_2 (wrap64 ((x1_2.length:Int) - 1))).f2.f2) ((rd_T39 x1_2 (wrap64 ((x1_2.length:Int) - 1))).f2.f3) ((rd_T39 x1_2 (wrap64 ((x1_2.length:Int) - 1))).f3.f0) ((rd_T39 x1_2 (wrap64 ((x1_2.length:Int) - 1))).f3.f1) ((rd_T39 x1_2 (wrap64 ((x1_2.length:Int) - 1))).f3.f2) ((rd_T39 x1_2 (wrap64 ((x1_2.length:Int) - 1))).f3.f3) ((rd_T39 x1_2 (wrap64 ((x1_2.length:Int) - 1))).f4.f0) ((rd_T39 x1_2 (wrap64 ((x1_2.length:Int) - 1))).f4.f1) ((rd_T39 x1_2 (wrap64 ((x1_2.length:Int) - 1))).f4.f2) ((rd_T39 x1_2 (wrap64 ((x1_2.length:Int) - 1))).f4.f3) ((rd_T39 x1_2 (wrap64 ((x1_2.length:Int) - 1))).f5)).bind fun t169 => (if t169 = true then (if (ji30) ≤ (x0_2.length:Int) then (if (wrap64 ((x1_2.length:Int) - 1)) ≤ (x1_2.length:Int) then (harm_Parts.l1 k2 (x0_2.take ((ji30):Int).toNat) (x1_2.take ((wrap64 ((x1_2.length:Int) - 1)):Int).toNat)) else (none)) else (none)) else (if ([]:List (S39)).length + x0_2.length < 1172812402961 then (if ([]:List (S39)).length + x1_2.length < 1172812402961 then (some ((([]:List (S39)) ++ x0_2),(([]:List (S39)) ++ x1_2))) else (none)) else (none)))) else (none)) else (none)) else (none)) else (none)) = some (r1,r2):=by first | (rw [hji30] at H; exact H) | (simp only [hji30] at H ⊢; exact H)
        have hji30w:(IntKind.i64.wrap ((x0_2.length:Int) - 1)) = ji30:=(i64_w _).trans hji30
        by_cases c31:0 ≤ (ji30)
        ·rw [if_pos c31] at H
         have c31b0:decide (0 ≤ (ji30)) = true:=decide_eq_true c31
         clear c31
         by_cases c32:(ji30) < (x0_2.length:Int)
         ·rw [if_pos c32] at H
          have c32b0:decide ((ji30) < (x0_2.length:Int)) = true:=decide_eq_true c32
          clear c32
          obtain ⟨ji33,hji33⟩:∃ j_:Int,(wrap64 ((x1_2.length:Int) - 1)) = j_:=⟨_,rfl⟩
          replace H:(if 0 ≤ (ji33) then (if (ji33) < (x1_2.length:Int) then ((harm_Alike.f ((rd_T39 x0_2 (ji30)).f0) ((rd_T39 x0_2 (ji30)).f1) ((rd_T39 x0_2 (ji30)).f2.f0) ((rd_T39 x0_2 (ji30)).f2.f1) ((rd_T39 x0_2 (ji30)).f2.f2) ((rd_T39 x0_2 (ji30)).f2.f3) ((rd_T39 x0_2 (ji30)).f3.f0) ((rd_T39 x0_2 (ji30)).f3.f1) ((rd_T39 x0_2 (ji30)).f3.f2) ((rd_T39 x0_2 (ji30)).f3.f3) ((rd_T39 x0_2 (ji30)).f4.f0) ((rd_T39 x0_2 (ji30)).f4.f1) ((rd_T39 x0_2 (ji30)).f4.f2) ((rd_T39 x0_2 (ji30)).f4.f3) ((rd_T39 x0_2 (ji30)).f5) ((rd_T39 x1_2 (ji33)).f0) ((rd_T39 x1_2 (ji33)).f1) ((rd_T39 x1_2 (ji33)).f2.f0) ((rd_T39 x1_2 (ji33)).f2.f1) ((rd_T39 x1_2 (ji33)).f2.f2) ((rd_T39 x1_2 (ji33)).f2.f3) ((rd_T39 x1_2 (ji33)).f3.f0) ((rd_T39 x1_2 (ji33)).f3.f1) ((rd_T39 x1_2 (ji33)).f3.f2) ((rd_T39 x1_2 (ji33)).f3.f3) ((rd_T39 x1_2 (ji33)).f4.f0) ((rd_T39 x1_2 (ji33)).f4.f1) ((rd_T39 x1_2 (ji33)).f4.f2) ((rd_T39 x1_2 (ji33)).f4.f3) ((rd_T39 x1_2 (ji33)).f5)).bind fun t169 => (if t169 = true then (if (ji30) ≤ (x0_2.length:Int) then (if (ji33) ≤ (x1_2.length:Int) then (harm_Parts.l1 k2 (x0_2.take ((ji30):Int).toNat) (x1_2.take ((ji33):Int).toNat)) else (none)) else (none)) else (if ([]:List (S39)).length + x0_2.length < 1172812402961 then (if ([]:List (S39)).length + x1_2.length < 1172812402961 then (some ((([]:List (S39)) ++ x0_2),(([]:List (S39)) ++ x1_2))) else (none)) else (none)))) else (none)) else (none)) = some (r1,r2):=by first | (rw [hji33] at H; exact H) | (simp only [hji33] at H ⊢; exact H)
          have hji33w:(IntKind.i64.wrap ((x1_2.length:Int) - 1)) = ji33:=(i64_w _).trans hji33
          by_cases c34:0 ≤ (ji33)
          ·rw [if_pos c34] at H
           have c34b0:decide (0 ≤ (ji33)) = true:=decide_eq_true c34
           clear c34
           by_cases c35:(ji33) < (x1_2.length:Int)
           ·rw [if_pos c35] at H
            have c35b0:decide ((ji33) < (x1_2.length:Int)) = true:=decide_eq_true c35
            clear c35
            replace H:=Option.bind_eq_some_iff.mp H
            obtain ⟨t169,A360,H⟩:=H
            replace H:(if t169 = true then (if (ji30) ≤ (x0_2.length:Int) then (if (ji33) ≤ (x1_2.length:Int) then (harm_Parts.l1 k2 (x0_2.take ((ji30):Int).toNat) (x1_2.take ((ji33):Int).toNat)) else (none)) else (none)) else (if ([]:List (S39)).length + x0_2.length < 1172812402961 then (if ([]:List (S39)).length + x1_2.length < 1172812402961 then (some ((([]:List (S39)) ++ x0_2),(([]:List (S39)) ++ x1_2))) else (none)) else (none))) = some (r1,r2):=H
            have A36:=Aside0.mk A360
            clear A360
            by_cases c37:t169 = true
            ·subst c37
             have H1:(if (ji30) ≤ (x0_2.length:Int) then (if (ji33) ≤ (x1_2.length:Int) then (harm_Parts.l1 k2 (x0_2.take ((ji30):Int).toNat) (x1_2.take ((ji33):Int).toNat)) else (none)) else (none)) = some (r1,r2):=by rw [if_pos rfl] at H; exact H
             clear H
             have H:=H1
             clear H1
             have c38b0:=eq_true (of_decide_eq_true (by first | (with_reducible assumption) | assumption):0 ≤ (ji30))
             by_cases c39:(ji30) ≤ (x0_2.length:Int)
             ·rw [if_pos c39] at H
              have c39b0:=eq_true c39
              have c39b1:decide ((ji30) ≤ (x0_2.length:Int)) = true:=decide_eq_true c39
              clear c39
              obtain ⟨y170,hy170⟩:∃ y_:List (S39),y_ = (x0_2.take ((ji30):Int).toNat):=⟨_,rfl⟩
              replace H:(if (ji33) ≤ (x1_2.length:Int) then (harm_Parts.l1 k2 y170 (x1_2.take ((ji33):Int).toNat)) else (none)) = some (r1,r2):=by first | (rw [hy170]; with_reducible exact H) | (have H2_:=(Option.bind_some _ _).symm.trans H; rw [hy170]; with_reducible exact H2_) | (have H2_:=(Option.bind_some _ _).symm.trans H; with_reducible exact H2_) | with_reducible exact H | (rw [hy170]; exact H) | exact H
              have Ny170:=Aside0.mk hy170
              clear hy170
              have c40b0:=eq_true (of_decide_eq_true (by first | (with_reducible assumption) | assumption):0 ≤ (ji33))
              by_cases c41:(ji33) ≤ (x1_2.length:Int)
              ·rw [if_pos c41] at H
               have c41b0:=eq_true c41
               have c41b1:decide ((ji33) ≤ (x1_2.length:Int)) = true:=decide_eq_true c41
               clear c41
               obtain ⟨y175,hy175⟩:∃ y_:List (S39),y_ = (x1_2.take ((ji33):Int).toNat):=⟨_,rfl⟩
               replace H:(harm_Parts.l1 k2 y170 y175) = some (r1,r2):=by first | (rw [hy175]; with_reducible exact H) | (have H2_:=(Option.bind_some _ _).symm.trans H; rw [hy175]; with_reducible exact H2_) | (have H2_:=(Option.bind_some _ _).symm.trans H; with_reducible exact H2_) | with_reducible exact H | (rw [hy175]; exact H) | exact H
               have Ny175:=Aside0.mk hy175
               clear hy175
               have H':=Aside0.mk H
               clear H
               try go_wp2
               have n0_:=Aside0.mk (Kd.V_drew HO_0.out)
               have n1_:=Aside0.mk (Kd.V_drew HO_1.out)
               have n2_:=Aside0.mk (below_drew1 HB.out)
               clear HO_0
               clear HO_1
               clear HB
               have HO_0:=n0_
               have HO_1:=n1_
               have HB:=n2_
               clear n0_ n1_ n2_
               obtain ⟨Ao43,co43,eo43⟩:=Kd.V_slice HO_0.out
               (first | subst eo43 | (injection eo43 with f1_ f2_ f3_; have f4_:=f1_.symm; have f5_:=f3_.symm; clear f1_ f2_ f3_; subst f4_; subst f5_))
               obtain ⟨Ao44,co44,eo44⟩:=Kd.V_slice HO_1.out
               (first | subst eo44 | (injection eo44 with f1_ f2_ f3_; have f4_:=f1_.symm; have f5_:=f3_.symm; clear f1_ f2_ f3_; subst f4_; subst f5_))
               have p167:0 ≤ ((ji30):Int):=of_decide_eq_true (by first | (with_reducible assumption) | assumption)
               have q167:(ji30) < (x0_2.length:Int):=of_decide_eq_true (by first | (with_reducible assumption) | assumption)
               obtain ⟨ad167,e167,hx167_0,hx167_1,hx167_2,hx167_3,hx167_4,hx167_5,hx167_6,hx167_7,hx167_8,hx167_9,hx167_10,hx167_11,hx167_12,hx167_13,hx167_14⟩:=at_T39 (Kd.V_reads' HO_0.out).2.2 (ji30) p167 q167
               cases e167
               replace p167:=eq_true p167
               replace q167:=eq_true q167
               have p168:0 ≤ ((ji33):Int):=of_decide_eq_true (by first | (with_reducible assumption) | assumption)
               have q168:(ji33) < (x1_2.length:Int):=of_decide_eq_true (by first | (with_reducible assumption) | assumption)
               obtain ⟨ad168,e168,hx168_0,hx168_1,hx168_2,hx168_3,hx168_4,hx168_5,hx168_6,hx168_7,hx168_8,hx168_9,hx168_10,hx168_11,hx168_12,hx168_13,hx168_14⟩:=at_T39 (Kd.V_reads' HO_1.out).2.2 (ji33) p168 q168
               cases e168
               replace p168:=eq_true p168
               replace q168:=eq_true q168
               refine start_ (n:=23) (S:=fun w' => w'.cell? (ad167.add (((ji30)).toNat * 15)) = some (.int .i64 ((rd_T39 x0_2 (ji30)).f0)) ∧ w'.cell? ⟨(ad167.add (((ji30)).toNat * 15)).block,(ad167.add (((ji30)).toNat * 15)).off + 1,none⟩ = some (.int .i64 ((rd_T39 x0_2 (ji30)).f1)) ∧ w'.cell? ⟨(ad167.add (((ji30)).toNat * 15)).block,(ad167.add (((ji30)).toNat * 15)).off + 2,none⟩ = some (.int .i64 ((rd_T39 x0_2 (ji30)).f2.f0)) ∧ w'.cell? ⟨(ad167.add (((ji30)).toNat * 15)).block,(ad167.add (((ji30)).toNat * 15)).off + 3,none⟩ = some (.int .i64 ((rd_T39 x0_2 (ji30)).f2.f1)) ∧ w'.cell? ⟨(ad167.add (((ji30)).toNat * 15)).block,(ad167.add (((ji30)).toNat * 15)).off + 4,none⟩ = some (.int .i64 ((rd_T39 x0_2 (ji30)).f2.f2)) ∧ w'.cell? ⟨(ad167.add (((ji30)).toNat * 15)).block,(ad167.add (((ji30)).toNat * 15)).off + 5,none⟩ = some (.int .i64 ((rd_T39 x0_2 (ji30)).f2.f3)) ∧ w'.cell? ⟨(ad167.add (((ji30)).toNat * 15)).block,(ad167.add (((ji30)).toNat * 15)).off + 6,none⟩ = some (.int .i64 ((rd_T39 x0_2 (ji30)).f3.f0)) ∧ w'.cell? ⟨(ad167.add (((ji30)).toNat * 15)).block,(ad167.add (((ji30)).toNat * 15)).off + 7,none⟩ = some (.int .i64 ((rd_T39 x0_2 (ji30)).f3.f1)) ∧ w'.cell? ⟨(ad167.add (((ji30)).toNat * 15)).block,(ad167.add (((ji30)).toNat * 15)).off + 8,none⟩ = some (.int .i64 ((rd_T39 x0_2 (ji30)).f3.f2)) ∧ w'.cell? ⟨(ad167.add (((ji30)).toNat * 15)).block,(ad167.add (((ji30)).toNat * 15)).off + 9,none⟩ = some (.int .i64 ((rd_T39 x0_2 (ji30)).f3.f3)) ∧ w'.cell? ⟨(ad167.add (((ji30)).toNat * 15)).block,(ad167.add (((ji30)).toNat * 15)).off + 10,none⟩ = some (.int .i64 ((rd_T39 x0_2 (ji30)).f4.f0)) ∧ w'.cell? ⟨(ad167.add (((ji30)).toNat * 15)).block,(ad167.add (((ji30)).toNat * 15)).off + 11,none⟩ = some (.int .i64 ((rd_T39 x0_2 (ji30)).f4.f1)) ∧ w'.cell? ⟨(ad167.add (((ji30)).toNat * 15)).block,(ad167.add (((ji30)).toNat * 15)).off + 12,none⟩ = some (.int .i64 ((rd_T39 x0_2 (ji30)).f4.f2)) ∧ w'.cell? ⟨(ad167.add (((ji30)).toNat * 15)).block,(ad167.add (((ji30)).toNat * 15)).off + 13,none⟩ = some (.int .i64 ((rd_T39 x0_2 (ji30)).f4.f3)) ∧ w'.cell? ⟨(ad167.add (((ji30)).toNat * 15)).block,(ad167.add (((ji30)).toNat * 15)).off + 14,none⟩ = some (.int .i64 ((rd_T39 x0_2 (ji30)).f5)) ∧ w'.cell? (ad168.add (((ji33)).toNat * 15)) = some (.int .i64 ((rd_T39 x1_2 (ji33)).f0)) ∧ w'.cell? ⟨(ad168.add (((ji33)).toNat * 15)).block,(ad168.add (((ji33)).toNat * 15)).off + 1,none⟩ = some (.int .i64 ((rd_T39 x1_2 (ji33)).f1)) ∧ w'.cell? ⟨(ad168.add (((ji33)).toNat * 15)).block,(ad168.add (((ji33)).toNat * 15)).off + 2,none⟩ = some (.int .i64 ((rd_T39 x1_2 (ji33)).f2.f0)) ∧ w'.cell? ⟨(ad168.add (((ji33)).toNat * 15)).block,(ad168.add (((ji33)).toNat * 15)).off + 3,none⟩ = some (.int .i64 ((rd_T39 x1_2 (ji33)).f2.f1)) ∧ w'.cell? ⟨(ad168.add (((ji33)).toNat * 15)).block,(ad168.add (((ji33)).toNat * 15)).off + 4,none⟩ = some (.int .i64 ((rd_T39 x1_2 (ji33)).f2.f2)) ∧ w'.cell? ⟨(ad168.add (((ji33)).toNat * 15)).block,(ad168.add (((ji33)).toNat * 15)).off + 5,none⟩ = some (.int .i64 ((rd_T39 x1_2 (ji33)).f2.f3)) ∧ w'.cell? ⟨(ad168.add (((ji33)).toNat * 15)).block,(ad168.add (((ji33)).toNat * 15)).off + 6,none⟩ = some (.int .i64 ((rd_T39 x1_2 (ji33)).f3.f0)) ∧ w'.cell? ⟨(ad168.add (((ji33)).toNat * 15)).block,(ad168.add (((ji33)).toNat * 15)).off + 7,none⟩ = some (.int .i64 ((rd_T39 x1_2 (ji33)).f3.f1)) ∧ w'.cell? ⟨(ad168.add (((ji33)).toNat * 15)).block,(ad168.add (((ji33)).toNat * 15)).off + 8,none⟩ = some (.int .i64 ((rd_T39 x1_2 (ji33)).f3.f2)) ∧ w'.cell? ⟨(ad168.add (((ji33)).toNat * 15)).block,(ad168.add (((ji33)).toNat * 15)).off + 9,none⟩ = some (.int .i64 ((rd_T39 x1_2 (ji33)).f3.f3)) ∧ w'.cell? ⟨(ad168.add (((ji33)).toNat * 15)).block,(ad168.add (((ji33)).toNat * 15)).off + 10,none⟩ = some (.int .i64 ((rd_T39 x1_2 (ji33)).f4.f0)) ∧ w'.cell? ⟨(ad168.add (((ji33)).toNat * 15)).block,(ad168.add (((ji33)).toNat * 15)).off + 11,none⟩ = some (.int .i64 ((rd_T39 x1_2 (ji33)).f4.f1)) ∧ w'.cell? ⟨(ad168.add (((ji33)).toNat * 15)).block,(ad168.add (((ji33)).toNat * 15)).off + 12,none⟩ = some (.int .i64 ((rd_T39 x1_2 (ji33)).f4.f2)) ∧ w'.cell? ⟨(ad168.add (((ji33)).toNat * 15)).block,(ad168.add (((ji33)).toNat * 15)).off + 13,none⟩ = some (.int .i64 ((rd_T39 x1_2 (ji33)).f4.f3)) ∧ w'.cell? ⟨(ad168.add (((ji33)).toNat * 15)).block,(ad168.add (((ji33)).toNat * 15)).off + 14,none⟩ = some (.int .i64 ((rd_T39 x1_2 (ji33)).f5))) (ds:=[]) #[false,false,false,false,false,false,false,false,false,false,false,false,false,false,false,false,false,false,false,false,false,false,false] (by kernel_rfl) rfl rfl ⟨hx167_0,hx167_1,hx167_2,hx167_3,hx167_4,hx167_5,hx167_6,hx167_7,hx167_8,hx167_9,hx167_10,hx167_11,hx167_12,hx167_13,hx167_14,hx168_0,hx168_1,hx168_2,hx168_3,hx168_4,hx168_5,hx168_6,hx168_7,hx168_8,hx168_9,hx168_10,hx168_11,hx168_12,hx168_13,hx168_14⟩ (fun hHeld => ?_); refine with_tabW harm_Parts.tab3 harm_Parts.bits3 (fun HT_ HW_ => ?_)
               generalize wr.drew = w42 at HO_0 HO_1 HB hx167_0 hx167_1 hx167_10 hx167_11 hx167_12 hx167_13 hx167_14 hx167_2 hx167_3 hx167_4 hx167_5 hx167_6 hx167_7 hx167_8 hx167_9 hx168_0 hx168_1 hx168_10 hx168_11 hx168_12 hx168_13 hx168_14 hx168_2 hx168_3 hx168_4 hx168_5 hx168_6 hx168_7 hx168_8 hx168_9 hHeld ⊢
               refine pure_ (i:=0) (N:=some 27) (v:=?_) (a':=?_) #[true,false,false,false,false,false,false,false,false,false,false,false,false,false,false,false,false,false,false,false,false,false,false] rfl rfl (any_of HT_.out (by kernel_rfl)) (fun _ _ _ h => h) (Or.inl ⟨by rfl,?_⟩) ?_ ?_
               rotate_left
               ·intro w'
                go_simp
                with_reducible rfl
               rotate_left
               ·simp only [Act.put,List.setIfInBounds_toArray,List.set_cons_zero,List.set_cons_succ,i64_w,i32_w]
                rfl
               refine pure_ (i:=1) (N:=some 28) (v:=?_) (a':=?_) #[true,true,false,false,false,false,false,false,false,false,false,false,false,false,false,false,false,false,false,false,false,false,false] rfl rfl (any_of HT_.out (by kernel_rfl)) (fun _ _ _ h => h) (Or.inl ⟨by rfl,?_⟩) ?_ ?_
               rotate_left
               ·intro w'
                go_simp
                with_reducible rfl
               rotate_left
               ·simp only [Act.put,List.setIfInBounds_toArray,List.set_cons_zero,List.set_cons_succ,i64_w,i32_w]
                rfl
               refine pure_ (i:=2) (N:=some 29) (v:=?_) (a':=?_) #[true,true,true,false,false,false,false,false,false,false,false,false,false,false,false,false,false,false,false,false,false,false,false] rfl rfl (any_of HT_.out (by kernel_rfl)) (fun _ _ _ h => h) (Or.inl ⟨by rfl,?_⟩) ?_ ?_
               rotate_left
               ·intro w'
                go_simp
                with_reducible rfl
               rotate_left
               ·simp only [Act.put,List.setIfInBounds_toArray,List.set_cons_zero,List.set_cons_succ,i64_w,i32_w]
                rfl
               refine pure_ (i:=3) (N:=some 30) (v:=?_) (a':=?_) #[true,true,true,true,false,false,false,false,false,false,false,false,false,false,false,false,false,false,false,false,false,false,false] rfl rfl (any_of HT_.out (by kernel_rfl)) (fun _ _ _ h => h) (Or.inl ⟨by rfl,?_⟩) ?_ ?_
               rotate_left
               ·intro w'
                go_simp
                with_reducible rfl
               rotate_left
               ·simp only [Act.put,List.setIfInBounds_toArray,List.set_cons_zero,List.set_cons_succ,i64_w,i32_w]
                rfl
               refine pure_ (i:=4) (N:=some 31) (v:=?_) (a':=?_) #[true,true,true,true,true,false,false,false,false,false,false,false,false,false,false,false,false,false,false,false,false,false,false] rfl rfl (any_of HT_.out (by kernel_rfl)) (fun _ _ _ h => h) (Or.inl ⟨by rfl,?_⟩) ?_ ?_
               rotate_left
               ·intro w'
                go_simp
                with_reducible rfl
               rotate_left
               ·simp only [Act.put,List.setIfInBounds_toArray,List.set_cons_zero,List.set_cons_succ,i64_w,i32_w]
                rfl
               refine pure_ (i:=5) (N:=some 32) (v:=?_) (a':=?_) #[true,true,true,true,true,true,false,false,false,false,false,false,false,false,false,false,false,false,false,false,false,false,false] rfl rfl (any_of HT_.out (by kernel_rfl)) (fun _ _ _ h => h) (Or.inl ⟨by rfl,?_⟩) ?_ ?_
               rotate_left
               ·intro w'
                go_simp
                with_reducible rfl
               rotate_left
               ·simp only [Act.put,List.setIfInBounds_toArray,List.set_cons_zero,List.set_cons_succ,i64_w,i32_w]
                rfl
               refine pure_ (i:=6) (N:=some 33) (v:=?_) (a':=?_) #[true,true,true,true,true,true,true,false,false,false,false,false,false,false,false,false,false,false,false,false,false,false,false] rfl rfl (any_of HT_.out (by kernel_rfl)) (fun _ _ _ h => h) (Or.inl ⟨by rfl,?_⟩) ?_ ?_
               rotate_left
               ·intro w'
                go_simp
                with_reducible rfl
               rotate_left
               ·simp only [Act.put,List.setIfInBounds_toArray,List.set_cons_zero,List.set_cons_succ,i64_w,i32_w]
                rfl
               refine pure_ (i:=7) (N:=some 34) (v:=?_) (a':=?_) #[true,true,true,true,true,true,true,true,false,false,false,false,false,false,false,false,false,false,false,false,false,false,false] rfl rfl (any_of HT_.out (by kernel_rfl)) (fun _ _ _ h => h) (Or.inl ⟨by rfl,?_⟩) ?_ ?_
               rotate_left
               ·intro w'
                go_simp
                with_reducible rfl
               rotate_left
               ·simp only [Act.put,List.setIfInBounds_toArray,List.set_cons_zero,List.set_cons_succ,i64_w,i32_w]
                rfl
               refine pure_ (i:=8) (N:=some 35) (v:=?_) (a':=?_) #[true,true,true,true,true,true,true,true,true,false,false,false,false,false,false,false,false,false,false,false,false,false,false] rfl rfl (any_of HT_.out (by kernel_rfl)) (fun _ _ _ h => h) (Or.inl ⟨by rfl,?_⟩) ?_ ?_
               rotate_left
               ·intro w'
                go_simp
                with_reducible rfl
               rotate_left
               ·simp only [Act.put,List.setIfInBounds_toArray,List.set_cons_zero,List.set_cons_succ,i64_w,i32_w]
                rfl
               refine pure_ (i:=9) (N:=some 36) (v:=?_) (a':=?_) #[true,true,true,true,true,true,true,true,true,true,false,false,false,false,false,false,false,false,false,false,false,false,false] rfl rfl (any_of HT_.out (by kernel_rfl)) (fun _ _ _ h => h) (Or.inl ⟨by rfl,?_⟩) ?_ ?_
               rotate_left
               ·intro w'
                go_simp
                with_reducible rfl
               rotate_left
               ·simp only [Act.put,List.setIfInBounds_toArray,List.set_cons_zero,List.set_cons_succ,i64_w,i32_w]
                rfl
               refine pure_ (i:=10) (N:=some 37) (v:=?_) (a':=?_) #[true,true,true,true,true,true,true,true,true,true,true,false,false,false,false,false,false,false,false,false,false,false,false] rfl rfl (any_of HT_.out (by kernel_rfl)) (fun _ _ _ h => h) (Or.inl ⟨by rfl,?_⟩) ?_ ?_
               rotate_left
               ·intro w'
                go_simp
                with_reducible rfl
               rotate_left
               ·simp only [Act.put,List.setIfInBounds_toArray,List.set_cons_zero,List.set_cons_succ,i64_w,i32_w]
                rfl
               refine pure_ (i:=11) (N:=some 38) (v:=?_) (a':=?_) #[true,true,true,true,true,true,true,true,true,true,true,true,false,false,false,false,false,false,false,false,false,false,false] rfl rfl (any_of HT_.out (by kernel_rfl)) (fun _ _ _ h => h) (Or.inl ⟨by rfl,?_⟩) ?_ ?_
               rotate_left
               ·intro w'
                go_simp
                with_reducible rfl
               rotate_left
               ·simp only [Act.put,List.setIfInBounds_toArray,List.set_cons_zero,List.set_cons_succ,i64_w,i32_w]
                rfl
               refine pure_ (i:=12) (N:=some 39) (v:=?_) (a':=?_) #[true,true,true,true,true,true,true,true,true,true,true,true,true,false,false,false,false,false,false,false,false,false,false] rfl rfl (any_of HT_.out (by kernel_rfl)) (fun _ _ _ h => h) (Or.inl ⟨by rfl,?_⟩) ?_ ?_
               rotate_left
               ·intro w'
                go_simp
                with_reducible rfl
               rotate_left
               ·simp only [Act.put,List.setIfInBounds_toArray,List.set_cons_zero,List.set_cons_succ,i64_w,i32_w]
                rfl
               refine pure_ (i:=13) (N:=some 40) (v:=?_) (a':=?_) #[true,true,true,true,true,true,true,true,true,true,true,true,true,true,false,false,false,false,false,false,false,false,false] rfl rfl (any_of HT_.out (by kernel_rfl)) (fun _ _ _ h => h) (Or.inl ⟨by rfl,?_⟩) ?_ ?_
               rotate_left
               ·intro w'
                go_simp
                with_reducible rfl
               rotate_left
               ·simp only [Act.put,List.setIfInBounds_toArray,List.set_cons_zero,List.set_cons_succ,i64_w,i32_w]
                rfl
               refine pure_ (i:=15) (N:=some 42) (v:=?_) (a':=?_) #[true,true,true,true,true,true,true,true,true,true,true,true,true,true,false,true,false,false,false,false,false,false,false] rfl rfl (any_of HT_.out (by kernel_rfl)) (fun _ _ _ h => h) (Or.inl ⟨by rfl,?_⟩) ?_ ?_
               rotate_left
               ·intro w'
                go_simp
                with_reducible rfl
               rotate_left
               ·simp only [Act.put,List.setIfInBounds_toArray,List.set_cons_zero,List.set_cons_succ,i64_w,i32_w]
                rfl
               refine pure_ (i:=16) (N:=some 43) (v:=?_) (a':=?_) #[true,true,true,true,true,true,true,true,true,true,true,true,true,true,false,true,true,false,false,false,false,false,false] rfl rfl (any_of HT_.out (by kernel_rfl)) (fun _ _ _ h => h) (Or.inl ⟨by rfl,?_⟩) ?_ ?_
               rotate_left
               ·intro w'
                go_simp
                with_reducible rfl
               rotate_left
               ·simp only [Act.put,List.setIfInBounds_toArray,List.set_cons_zero,List.set_cons_succ,i64_w,i32_w]
                rfl
               refine pure_ (i:=17) (N:=some 44) (v:=?_) (a':=?_) #[true,true,true,true,true,true,true,true,true,true,true,true,true,true,false,true,true,true,false,false,false,false,false] rfl rfl (any_of HT_.out (by kernel_rfl)) (fun _ _ _ h => h) (Or.inl ⟨by rfl,?_⟩) ?_ ?_
               rotate_left
               ·intro w'
                go_simp
                with_reducible rfl
               rotate_left
               ·simp only [Act.put,List.setIfInBounds_toArray,List.set_cons_zero,List.set_cons_succ,i64_w,i32_w]
                rfl
               refine pure_ (i:=18) (N:=some 45) (v:=?_) (a':=?_) #[true,true,true,true,true,true,true,true,true,true,true,true,true,true,false,true,true,true,true,false,false,false,false] rfl rfl (any_of HT_.out (by kernel_rfl)) (fun _ _ _ h => h) (Or.inl ⟨by rfl,?_⟩) ?_ ?_
               rotate_left
               ·intro w'
                go_simp
                with_reducible rfl
               rotate_left
               ·simp only [Act.put,List.setIfInBounds_toArray,List.set_cons_zero,List.set_cons_succ,i64_w,i32_w]
                rfl
               refine pure_ (i:=19) (N:=some 46) (v:=?_) (a':=?_) #[true,true,true,true,true,true,true,true,true,true,true,true,true,true,false,true,true,true,true,true,false,false,false] rfl rfl (any_of HT_.out (by kernel_rfl)) (fun _ _ _ h => h) (Or.inl ⟨by rfl,?_⟩) ?_ ?_
               rotate_left
               ·intro w'
                go_simp
                with_reducible rfl
               rotate_left
               ·simp only [Act.put,List.setIfInBounds_toArray,List.set_cons_zero,List.set_cons_succ,i64_w,i32_w]
                rfl
               refine take_ (i:=14) (N:=some 41) (v:=?_) (a':=?_) #[true,true,true,true,true,true,true,true,true,true,true,true,true,true,true,true,true,true,true,true,false,false,false] rfl rfl (take_ofW HT_.out HW_.out (by kernel_rfl)) (fun _ _ _ h => h) (Or.inl ⟨by rfl,?_⟩) hHeld ?_ ?_
               rotate_left
               ·rintro w' ⟨s0,s1,s2,s3,s4,s5,s6,s7,s8,s9,s10,s11,s12,s13,s14,s15,s16,s17,s18,s19,s20,s21,s22,s23,s24,s25,s26,s27,s28,s29⟩
                go_simp
                with_reducible rfl
               rotate_left
               ·simp only [Act.put,List.setIfInBounds_toArray,List.set_cons_zero,List.set_cons_succ,i64_w,i32_w]
                rfl
               refine take_ (i:=20) (N:=some 47) (v:=?_) (a':=?_) #[true,true,true,true,true,true,true,true,true,true,true,true,true,true,true,true,true,true,true,true,true,false,false] rfl rfl (take_ofW HT_.out HW_.out (by kernel_rfl)) (fun _ _ _ h => h) (Or.inl ⟨by rfl,?_⟩) hHeld ?_ ?_
               rotate_left
               ·rintro w' ⟨s0,s1,s2,s3,s4,s5,s6,s7,s8,s9,s10,s11,s12,s13,s14,s15,s16,s17,s18,s19,s20,s21,s22,s23,s24,s25,s26,s27,s28,s29⟩
                go_simp
                with_reducible rfl
               rotate_left
               ·simp only [Act.put,List.setIfInBounds_toArray,List.set_cons_zero,List.set_cons_succ,i64_w,i32_w]
                rfl
               refine one_ (i:=21) (N:=some 48) #[true,true,true,true,true,true,true,true,true,true,true,true,true,true,true,true,true,true,true,true,true,true,false] rfl rfl (one_of HT_.out (by kernel_rfl)) (by decide) (fun K hK => ?_)
               refine goes_ Try.func24 (by kernel_rfl) rfl #[.agg #[.int .i64 ((rd_T39 x0_2 (ji30)).f0),.int .i64 ((rd_T39 x0_2 (ji30)).f1),.int .i64 ((rd_T39 x0_2 (ji30)).f2.f0),.int .i64 ((rd_T39 x0_2 (ji30)).f2.f1),.int .i64 ((rd_T39 x0_2 (ji30)).f2.f2),.int .i64 ((rd_T39 x0_2 (ji30)).f2.f3),.int .i64 ((rd_T39 x0_2 (ji30)).f3.f0),.int .i64 ((rd_T39 x0_2 (ji30)).f3.f1),.int .i64 ((rd_T39 x0_2 (ji30)).f3.f2),.int .i64 ((rd_T39 x0_2 (ji30)).f3.f3),.int .i64 ((rd_T39 x0_2 (ji30)).f4.f0),.int .i64 ((rd_T39 x0_2 (ji30)).f4.f1),.int .i64 ((rd_T39 x0_2 (ji30)).f4.f2),.int .i64 ((rd_T39 x0_2 (ji30)).f4.f3),.int .i64 ((rd_T39 x0_2 (ji30)).f5)],.agg #[.int .i64 ((rd_T39 x1_2 (ji33)).f0),.int .i64 ((rd_T39 x1_2 (ji33)).f1),.int .i64 ((rd_T39 x1_2 (ji33)).f2.f0),.int .i64 ((rd_T39 x1_2 (ji33)).f2.f1),.int .i64 ((rd_T39 x1_2 (ji33)).f2.f2),.int .i64 ((rd_T39 x1_2 (ji33)).f2.f3),.int .i64 ((rd_T39 x1_2 (ji33)).f3.f0),.int .i64 ((rd_T39 x1_2 (ji33)).f3.f1),.int .i64 ((rd_T39 x1_2 (ji33)).f3.f2),.int .i64 ((rd_T39 x1_2 (ji33)).f3.f3),.int .i64 ((rd_T39 x1_2 (ji33)).f4.f0),.int .i64 ((rd_T39 x1_2 (ji33)).f4.f1),.int .i64 ((rd_T39 x1_2 (ji33)).f4.f2),.int .i64 ((rd_T39 x1_2 (ji33)).f4.f3),.int .i64 ((rd_T39 x1_2 (ji33)).f5)]] (by rfl) rfl rfl (by (try simp only [List.map_toArray,List.map_cons,List.map_nil]); first | done | (simp only [hji30,hji33]; rfl) | rfl | (simp only [List.length_drop,List.length_take]; rfl)) ?_
               with_reducible refine (harm_Alike.calls ((rd_T39 x0_2 (ji30)).f0) ((rd_T39 x0_2 (ji30)).f1) ((rd_T39 x0_2 (ji30)).f2.f0) ((rd_T39 x0_2 (ji30)).f2.f1) ((rd_T39 x0_2 (ji30)).f2.f2) ((rd_T39 x0_2 (ji30)).f2.f3) ((rd_T39 x0_2 (ji30)).f3.f0) ((rd_T39 x0_2 (ji30)).f3.f1) ((rd_T39 x0_2 (ji30)).f3.f2) ((rd_T39 x0_2 (ji30)).f3.f3) ((rd_T39 x0_2 (ji30)).f4.f0) ((rd_T39 x0_2 (ji30)).f4.f1) ((rd_T39 x0_2 (ji30)).f4.f2) ((rd_T39 x0_2 (ji30)).f4.f3) ((rd_T39 x0_2 (ji30)).f5) ((rd_T39 x1_2 (ji33)).f0) ((rd_T39 x1_2 (ji33)).f1) ((rd_T39 x1_2 (ji33)).f2.f0) ((rd_T39 x1_2 (ji33)).f2.f1) ((rd_T39 x1_2 (ji33)).f2.f2) ((rd_T39 x1_2 (ji33)).f2.f3) ((rd_T39 x1_2 (ji33)).f3.f0) ((rd_T39 x1_2 (ji33)).f3.f1) ((rd_T39 x1_2 (ji33)).f3.f2) ((rd_T39 x1_2 (ji33)).f3.f3) ((rd_T39 x1_2 (ji33)).f4.f0) ((rd_T39 x1_2 (ji33)).f4.f1) ((rd_T39 x1_2 (ji33)).f4.f2) ((rd_T39 x1_2 (ji33)).f4.f3) ((rd_T39 x1_2 (ji33)).f5) true _ A36.out).mono ?_
               rintro e w45 ⟨rfl,hb⟩
               have HS0_:=(hb.cell (World.block_lt_of_cell? _ _ (hHeld.1))).trans (hHeld.1)
               have HS1_:=(hb.cell (World.block_lt_of_cell? _ _ (hHeld.2.1))).trans (hHeld.2.1)
               have HS2_:=(hb.cell (World.block_lt_of_cell? _ _ (hHeld.2.2.1))).trans (hHeld.2.2.1)
               have HS3_:=(hb.cell (World.block_lt_of_cell? _ _ (hHeld.2.2.2.1))).trans (hHeld.2.2.2.1)
               have HS4_:=(hb.cell (World.block_lt_of_cell? _ _ (hHeld.2.2.2.2.1))).trans (hHeld.2.2.2.2.1)
               have HS5_:=(hb.cell (World.block_lt_of_cell? _ _ (hHeld.2.2.2.2.2.1))).trans (hHeld.2.2.2.2.2.1)
               have HS6_:=(hb.cell (World.block_lt_of_cell? _ _ (hHeld.2.2.2.2.2.2.1))).trans (hHeld.2.2.2.2.2.2.1)
               have HS7_:=(hb.cell (World.block_lt_of_cell? _ _ (hHeld.2.2.2.2.2.2.2.1))).trans (hHeld.2.2.2.2.2.2.2.1)
               have HS8_:=(hb.cell (World.block_lt_of_cell? _ _ (hHeld.2.2.2.2.2.2.2.2.1))).trans (hHeld.2.2.2.2.2.2.2.2.1)
               have HS9_:=(hb.cell (World.block_lt_of_cell? _ _ (hHeld.2.2.2.2.2.2.2.2.2.1))).trans (hHeld.2.2.2.2.2.2.2.2.2.1)
               have HS10_:=(hb.cell (World.block_lt_of_cell? _ _ (hHeld.2.2.2.2.2.2.2.2.2.2.1))).trans (hHeld.2.2.2.2.2.2.2.2.2.2.1)
               have HS11_:=(hb.cell (World.block_lt_of_cell? _ _ (hHeld.2.2.2.2.2.2.2.2.2.2.2.1))).trans (hHeld.2.2.2.2.2.2.2.2.2.2.2.1)
               have HS12_:=(hb.cell (World.block_lt_of_cell? _ _ (hHeld.2.2.2.2.2.2.2.2.2.2.2.2.1))).trans (hHeld.2.2.2.2.2.2.2.2.2.2.2.2.1)
               have HS13_:=(hb.cell (World.block_lt_of_cell? _ _ (hHeld.2.2.2.2.2.2.2.2.2.2.2.2.2.1))).trans (hHeld.2.2.2.2.2.2.2.2.2.2.2.2.2.1)
               have HS14_:=(hb.cell (World.block_lt_of_cell? _ _ (hHeld.2.2.2.2.2.2.2.2.2.2.2.2.2.2.1))).trans (hHeld.2.2.2.2.2.2.2.2.2.2.2.2.2.2.1)
               have HS15_:=(hb.cell (World.block_lt_of_cell? _ _ (hHeld.2.2.2.2.2.2.2.2.2.2.2.2.2.2.2.1))).trans (hHeld.2.2.2.2.2.2.2.2.2.2.2.2.2.2.2.1)
               have HS16_:=(hb.cell (World.block_lt_of_cell? _ _ (hHeld.2.2.2.2.2.2.2.2.2.2.2.2.2.2.2.2.1))).trans (hHeld.2.2.2.2.2.2.2.2.2.2.2.2.2.2.2.2.1)
               have HS17_:=(hb.cell (World.block_lt_of_cell? _ _ (hHeld.2.2.2.2.2.2.2.2.2.2.2.2.2.2.2.2.2.1))).trans (hHeld.2.2.2.2.2.2.2.2.2.2.2.2.2.2.2.2.2.1)
               have HS18_:=(hb.cell (World.block_lt_of_cell? _ _ (hHeld.2.2.2.2.2.2.2.2.2.2.2.2.2.2.2.2.2.2.1))).trans (hHeld.2.2.2.2.2.2.2.2.2.2.2.2.2.2.2.2.2.2.1)
               have HS19_:=(hb.cell (World.block_lt_of_cell? _ _ (hHeld.2.2.2.2.2.2.2.2.2.2.2.2.2.2.2.2.2.2.2.1))).trans (hHeld.2.2.2.2.2.2.2.2.2.2.2.2.2.2.2.2.2.2.2.1)
               have HS20_:=(hb.cell (World.block_lt_of_cell? _ _ (hHeld.2.2.2.2.2.2.2.2.2.2.2.2.2.2.2.2.2.2.2.2.1))).trans (hHeld.2.2.2.2.2.2.2.2.2.2.2.2.2.2.2.2.2.2.2.2.1)
               have HS21_:=(hb.cell (World.block_lt_of_cell? _ _ (hHeld.2.2.2.2.2.2.2.2.2.2.2.2.2.2.2.2.2.2.2.2.2.1))).trans (hHeld.2.2.2.2.2.2.2.2.2.2.2.2.2.2.2.2.2.2.2.2.2.1)
               have HS22_:=(hb.cell (World.block_lt_of_cell? _ _ (hHeld.2.2.2.2.2.2.2.2.2.2.2.2.2.2.2.2.2.2.2.2.2.2.1))).trans (hHeld.2.2.2.2.2.2.2.2.2.2.2.2.2.2.2.2.2.2.2.2.2.2.1)
               have HS23_:=(hb.cell (World.block_lt_of_cell? _ _ (hHeld.2.2.2.2.2.2.2.2.2.2.2.2.2.2.2.2.2.2.2.2.2.2.2.1))).trans (hHeld.2.2.2.2.2.2.2.2.2.2.2.2.2.2.2.2.2.2.2.2.2.2.2.1)
               have HS24_:=(hb.cell (World.block_lt_of_cell? _ _ (hHeld.2.2.2.2.2.2.2.2.2.2.2.2.2.2.2.2.2.2.2.2.2.2.2.2.1))).trans (hHeld.2.2.2.2.2.2.2.2.2.2.2.2.2.2.2.2.2.2.2.2.2.2.2.2.1)
               have HS25_:=(hb.cell (World.block_lt_of_cell? _ _ (hHeld.2.2.2.2.2.2.2.2.2.2.2.2.2.2.2.2.2.2.2.2.2.2.2.2.2.1))).trans (hHeld.2.2.2.2.2.2.2.2.2.2.2.2.2.2.2.2.2.2.2.2.2.2.2.2.2.1)
               have HS26_:=(hb.cell (World.block_lt_of_cell? _ _ (hHeld.2.2.2.2.2.2.2.2.2.2.2.2.2.2.2.2.2.2.2.2.2.2.2.2.2.2.1))).trans (hHeld.2.2.2.2.2.2.2.2.2.2.2.2.2.2.2.2.2.2.2.2.2.2.2.2.2.2.1)
               have HS27_:=(hb.cell (World.block_lt_of_cell? _ _ (hHeld.2.2.2.2.2.2.2.2.2.2.2.2.2.2.2.2.2.2.2.2.2.2.2.2.2.2.2.1))).trans (hHeld.2.2.2.2.2.2.2.2.2.2.2.2.2.2.2.2.2.2.2.2.2.2.2.2.2.2.2.1)
               have HS28_:=(hb.cell (World.block_lt_of_cell? _ _ (hHeld.2.2.2.2.2.2.2.2.2.2.2.2.2.2.2.2.2.2.2.2.2.2.2.2.2.2.2.2.1))).trans (hHeld.2.2.2.2.2.2.2.2.2.2.2.2.2.2.2.2.2.2.2.2.2.2.2.2.2.2.2.2.1)
               have HS29_:=(hb.cell (World.block_lt_of_cell? _ _ (hHeld.2.2.2.2.2.2.2.2.2.2.2.2.2.2.2.2.2.2.2.2.2.2.2.2.2.2.2.2.2))).trans (hHeld.2.2.2.2.2.2.2.2.2.2.2.2.2.2.2.2.2.2.2.2.2.2.2.2.2.2.2.2.2)
               refine ⟨_,rfl,?_⟩
               have n0_:=Aside0.mk (Kd.V_below (by (with_reducible repeat (first | apply Kd.V_alloc | apply Kd.V_drewN | apply Kd.V_drew)); exact HO_0.out) hb)
               have n1_:=Aside0.mk (Kd.V_below (by (with_reducible repeat (first | apply Kd.V_alloc | apply Kd.V_drewN | apply Kd.V_drew)); exact HO_1.out) hb)
               have n2_:=Aside0.mk (below_step (by repeat (first | (with_reducible first | exact HB.out | apply below_alloc | apply pw_below_drewN | apply below_drew1) | exact HB.out)) hb)
               clear HO_0
               clear HO_1
               clear HB
               have HO_0:=n0_
               have HO_1:=n1_
               have HB:=n2_
               clear n0_ n1_ n2_
               (try clear hb)
               (try clear hb2)
               (try clear hk)
               (try clear hi)
               refine hK.out _ _ ⟨HS0_,HS1_,HS2_,HS3_,HS4_,HS5_,HS6_,HS7_,HS8_,HS9_,HS10_,HS11_,HS12_,HS13_,HS14_,HS15_,HS16_,HS17_,HS18_,HS19_,HS20_,HS21_,HS22_,HS23_,HS24_,HS25_,HS26_,HS27_,HS28_,HS29_⟩ (fun hHeld => ?_)
               clear hK K
               refine norm_ (a':=?_) ?_ ?_
               rotate_left
               ·show Act.put _ (some 48) _ = _
                simp only [Act.put,List.setIfInBounds_toArray,List.set_cons_zero,List.set_cons_succ,i64_w,i32_w]
                rfl
               refine pure_ (i:=22) (N:=some 49) (v:=?_) (a':=?_) #[true,true,true,true,true,true,true,true,true,true,true,true,true,true,true,true,true,true,true,true,true,true,true] rfl rfl (any_of HT_.out (by kernel_rfl)) (fun _ _ _ h => h) (Or.inl ⟨by rfl,?_⟩) ?_ ?_
               rotate_left
               ·intro w'
                go_simp
                with_reducible rfl
               rotate_left
               ·simp only [Act.put,List.setIfInBounds_toArray,List.set_cons_zero,List.set_cons_succ,i64_w,i32_w]
                rfl
               refine done_ (done_of HT_.out (by kernel_rfl)) ?_
               try go_wp2
               have n0_:=Aside0.mk (Kd.V_drew HO_0.out)
               have n1_:=Aside0.mk (Kd.V_drew HO_1.out)
               have n2_:=Aside0.mk (below_drew1 HB.out)
               clear HO_0
               clear HO_1
               clear HB
               have HO_0:=n0_
               have HO_1:=n1_
               have HB:=n2_
               clear n0_ n1_ n2_
               have q47:((ji30):Int) ≤ ((x0_2.length:Int):Int):=of_decide_eq_true (by first | (with_reducible assumption) | assumption)
               obtain ⟨i047,hi047,_,hsz47,_⟩:=info_parts info39
               have hroom47:x0_2.length ≤ co43:=(Kd.V_reads' HO_0.out).2.1
               have hC47:Kd.F k39 _ _ (some ad167) x0_2.length x0_2:=(Kd.V_at (base:=w.heap.size) HO_0.out).2.2
               have hcut47:=cut_to (P:=Try.prog) 22 39 .i64 Try.underlying22 hi047 (some ad167) x0_2.length co43 (ji30) (of_decide_eq_true (by first | (with_reducible assumption) | assumption)) q47 hroom47
               have hr47:=Kd.F_take (m:=((ji30):Int).toNat) hC47 (by omega)
               have hy47:y170.length = ((ji30):Int).toNat:=(by rw [Ny170.out,List.length_take]; omega)
               rw [← Ny170.out] at hr47
               rw [← hy47] at hcut47
               have HO174:=Aside0.mk (show Kd.V k39 39 _ w.heap.size _ (.slice (some ad167) y170.length co43) y170 from Kd.V_mk (by omega) hr47)
               have HC174:=Aside0.mk (show y170.length ≤ co43 from by omega)
               clear hr47 hC47 hroom47 hi047 hsz47
               have KY47:=Aside0.mk hy47
               clear hy47
               replace q47:=eq_true q47
               have q48:((ji33):Int) ≤ ((x1_2.length:Int):Int):=of_decide_eq_true (by first | (with_reducible assumption) | assumption)
               obtain ⟨i048,hi048,_,hsz48,_⟩:=info_parts info39
               have hroom48:x1_2.length ≤ co44:=(Kd.V_reads' HO_1.out).2.1
               have hC48:Kd.F k39 _ _ (some ad168) x1_2.length x1_2:=(Kd.V_at (base:=w.heap.size) HO_1.out).2.2
               have hcut48:=cut_to (P:=Try.prog) 22 39 .i64 Try.underlying22 hi048 (some ad168) x1_2.length co44 (ji33) (of_decide_eq_true (by first | (with_reducible assumption) | assumption)) q48 hroom48
               have hr48:=Kd.F_take (m:=((ji33):Int).toNat) hC48 (by omega)
               have hy48:y175.length = ((ji33):Int).toNat:=(by rw [Ny175.out,List.length_take]; omega)
               rw [← Ny175.out] at hr48
               rw [← hy48] at hcut48
               have HO179:=Aside0.mk (show Kd.V k39 39 _ w.heap.size _ (.slice (some ad168) y175.length co44) y175 from Kd.V_mk (by omega) hr48)
               have HC179:=Aside0.mk (show y175.length ≤ co44 from by omega)
               clear hr48 hC48 hroom48 hi048 hsz48
               have KY48:=Aside0.mk hy48
               clear hy48
               replace q48:=eq_true q48
               refine start_ (n:=12) (S:=fun w' => True) (ds:=[]) #[false,false,false,false,false,false,false,false,false,false,false,false] (by kernel_rfl) rfl rfl trivial (fun hHeld => ?_); refine with_tabW harm_Parts.tab4 harm_Parts.bits4 (fun HT_ HW_ => ?_)
               generalize w45.drew = w46 at HO_0 HO_1 HB HO174 HO179 hHeld ⊢
               refine pure_ (i:=0) (N:=some 50) (v:=?_) (a':=?_) #[true,false,false,false,false,false,false,false,false,false,false,false] rfl rfl (any_of HT_.out (by kernel_rfl)) (fun _ _ _ h => h) (Or.inl ⟨by rfl,?_⟩) ?_ ?_
               rotate_left
               ·intro w'
                go_simp
                with_reducible rfl
               rotate_left
               ·simp only [Act.put,List.setIfInBounds_toArray,List.set_cons_zero,List.set_cons_succ,i64_w,i32_w]
                rfl
               refine pure_ (i:=1) (N:=some 51) (v:=?_) (a':=?_) #[true,true,false,false,false,false,false,false,false,false,false,false] rfl rfl (any_of HT_.out (by kernel_rfl)) (fun _ _ _ h => h) (Or.inl ⟨by rfl,?_⟩) ?_ ?_
               rotate_left
               ·intro w'
                go_simp
                with_reducible rfl
               rotate_left
               ·simp only [Act.put,List.setIfInBounds_toArray,List.set_cons_zero,List.set_cons_succ,i64_w,i32_w]
                rfl
               refine pure_ (i:=2) (N:=some 52) (v:=?_) (a':=?_) #[true,true,true,false,false,false,false,false,false,false,false,false] rfl rfl (any_of HT_.out (by kernel_rfl)) (fun _ _ _ h => h) (Or.inl ⟨by rfl,?_⟩) ?_ ?_
               rotate_left
               ·intro w'
                go_simp
                with_reducible rfl
               rotate_left
               ·simp only [Act.put,List.setIfInBounds_toArray,List.set_cons_zero,List.set_cons_succ,i64_w,i32_w]
                rfl
               refine pure_ (i:=3) (N:=some 53) (v:=?_) (a':=?_) #[true,true,true,true,false,false,false,false,false,false,false,false] rfl rfl (any_of HT_.out (by kernel_rfl)) (fun _ _ _ h => h) (Or.inl ⟨by rfl,?_⟩) ?_ ?_
               rotate_left
               ·intro w'
                go_simp
                with_reducible rfl
               rotate_left
               ·simp only [Act.put,List.setIfInBounds_toArray,List.set_cons_zero,List.set_cons_succ,i64_w,i32_w]
                rfl
               refine pure_ (i:=4) (N:=some 54) (v:=?_) (a':=?_) #[true,true,true,true,true,false,false,false,false,false,false,false] rfl rfl (any_of HT_.out (by kernel_rfl)) (fun _ _ _ h => h) (Or.inl ⟨by rfl,?_⟩) ?_ ?_
               rotate_left
               ·intro w'
                go_simp
                with_reducible rfl
               rotate_left
               ·simp only [Act.put,List.setIfInBounds_toArray,List.set_cons_zero,List.set_cons_succ,i64_w,i32_w]
                rfl
               refine pure_ (i:=5) (N:=some 55) (v:=?_) (a':=?_) #[true,true,true,true,true,true,false,false,false,false,false,false] rfl rfl (any_of HT_.out (by kernel_rfl)) (fun _ _ _ h => h) (Or.inl ⟨by rfl,?_⟩) ?_ ?_
               rotate_left
               ·intro w'
                go_simp
                with_reducible rfl
               rotate_left
               ·simp only [Act.put,List.setIfInBounds_toArray,List.set_cons_zero,List.set_cons_succ,i64_w,i32_w]
                rfl
               refine pure_ (i:=6) (N:=some 56) (v:=?_) (a':=?_) #[true,true,true,true,true,true,true,false,false,false,false,false] rfl rfl (any_of HT_.out (by kernel_rfl)) (fun _ _ _ h => h) (Or.inl ⟨by rfl,?_⟩) ?_ ?_
               rotate_left
               ·intro w'
                go_simp
                with_reducible rfl
               rotate_left
               ·simp only [Act.put,List.setIfInBounds_toArray,List.set_cons_zero,List.set_cons_succ,i64_w,i32_w]
                rfl
               refine pure_ (i:=7) (N:=some 57) (v:=?_) (a':=?_) #[true,true,true,true,true,true,true,true,false,false,false,false] rfl rfl (any_of HT_.out (by kernel_rfl)) (fun _ _ _ h => h) (Or.inl ⟨by rfl,?_⟩) ?_ ?_
               rotate_left
               ·intro w'
                go_simp
                with_reducible rfl
               rotate_left
               ·simp only [Act.put,List.setIfInBounds_toArray,List.set_cons_zero,List.set_cons_succ,i64_w,i32_w]
                rfl
               refine pure_ (i:=8) (N:=some 58) (v:=?_) (a':=?_) #[true,true,true,true,true,true,true,true,true,false,false,false] rfl rfl (any_of HT_.out (by kernel_rfl)) (fun _ _ _ h => h) (Or.inl ⟨by rfl,?_⟩) ?_ ?_
               rotate_left
               ·intro w'
                go_simp
                with_reducible rfl
               rotate_left
               ·simp only [Act.put,List.setIfInBounds_toArray,List.set_cons_zero,List.set_cons_succ,i64_w,i32_w]
                rfl
               refine pure_ (i:=9) (N:=some 59) (v:=?_) (a':=?_) #[true,true,true,true,true,true,true,true,true,true,false,false] rfl rfl (any_of HT_.out (by kernel_rfl)) (fun _ _ _ h => h) (Or.inl ⟨by rfl,?_⟩) ?_ ?_
               rotate_left
               ·intro w'
                go_simp
                with_reducible rfl
               rotate_left
               ·simp only [Act.put,List.setIfInBounds_toArray,List.set_cons_zero,List.set_cons_succ,i64_w,i32_w]
                rfl
               refine pure_ (i:=10) (N:=some 0) (v:=?_) (a':=?_) #[true,true,true,true,true,true,true,true,true,true,true,false] rfl rfl (any_of HT_.out (by kernel_rfl)) (fun _ _ _ h => h) (Or.inl ⟨by rfl,?_⟩) ?_ ?_
               rotate_left
               ·intro w'
                go_simp
                with_reducible rfl
               rotate_left
               ·simp only [Act.put,List.setIfInBounds_toArray,List.set_cons_zero,List.set_cons_succ,i64_w,i32_w]
                rfl
               refine pure_ (i:=11) (N:=some 1) (v:=?_) (a':=?_) #[true,true,true,true,true,true,true,true,true,true,true,true] rfl rfl (any_of HT_.out (by kernel_rfl)) (fun _ _ _ h => h) (Or.inl ⟨by rfl,?_⟩) ?_ ?_
               rotate_left
               ·intro w'
                go_simp
                with_reducible rfl
               rotate_left
               ·simp only [Act.put,List.setIfInBounds_toArray,List.set_cons_zero,List.set_cons_succ,i64_w,i32_w]
                rfl
               refine done_ (done_of HT_.out (by kernel_rfl)) ?_
               try go_wp2
               go_roundg k2
               case measure => have:=HJ2.out; have:=HK2.out; omega
               case rel => exact ⟨(y170),(y175),H',⟨by have:=HJ2.out; have:=HK2.out; omega⟩,⟨by (with_reducible repeat (first | apply Kd.V_alloc | apply Kd.V_drewN | apply Kd.V_drew)); exact HO174.out⟩,⟨by (with_reducible repeat (first | apply Kd.V_alloc | apply Kd.V_drewN | apply Kd.V_drew)); exact HO179.out⟩,⟨by repeat (first | (with_reducible first | exact HB.out | apply below_alloc | apply pw_below_drewN | apply below_drew1) | exact HB.out)⟩⟩
              ·rw [if_neg c41] at H
               exact absurd H (by simp)
             ·rw [if_neg c39] at H
              exact absurd H (by simp)
            ·replace c37:=Bool.eq_false_iff.mpr c37
             subst c37
             have H1:(if ([]:List (S39)).length + x0_2.length < 1172812402961 then (if ([]:List (S39)).length + x1_2.length < 1172812402961 then (some ((([]:List (S39)) ++ x0_2),(([]:List (S39)) ++ x1_2))) else (none)) else (none)) = some (r1,r2):=by rw [if_neg (show ¬ (false = true) by decide)] at H; exact H
             clear H
             have H:=H1
             clear H1
             by_cases c49:([]:List (S39)).length + x0_2.length < 1172812402961
             ·rw [if_pos c49] at H
              have LMc49:=Aside0.mk c49
              clear c49
              obtain ⟨y180,hy180⟩:∃ y_:List (S39),y_ = (([]:List (S39)) ++ x0_2):=⟨_,rfl⟩
              replace H:(if ([]:List (S39)).length + x1_2.length < 1172812402961 then (some (y180,(([]:List (S39)) ++ x1_2))) else (none)) = some (r1,r2):=by first | (rw [hy180]; with_reducible exact H) | (have H2_:=(Option.bind_some _ _).symm.trans H; rw [hy180]; with_reducible exact H2_) | (have H2_:=(Option.bind_some _ _).symm.trans H; with_reducible exact H2_) | with_reducible exact H | (rw [hy180]; exact H) | exact H
              have Ny180:=Aside0.mk hy180
              clear hy180
              by_cases c50:([]:List (S39)).length + x1_2.length < 1172812402961
              ·rw [if_pos c50] at H
               have LMc50:=Aside0.mk c50
               clear c50
               obtain ⟨y183,hy183⟩:∃ y_:List (S39),y_ = (([]:List (S39)) ++ x1_2):=⟨_,rfl⟩
               replace H:(some (y180,y183)) = some (r1,r2):=by first | (rw [hy183]; with_reducible exact H) | (have H2_:=(Option.bind_some _ _).symm.trans H; rw [hy183]; with_reducible exact H2_) | (have H2_:=(Option.bind_some _ _).symm.trans H; with_reducible exact H2_) | with_reducible exact H | (rw [hy183]; exact H) | exact H
               have Ny183:=Aside0.mk hy183
               clear hy183
               simp only [Option.some.injEq,Prod.mk.injEq] at H
               obtain ⟨rfl,rfl⟩:=H
               try go_wp2
               have n0_:=Aside0.mk (Kd.V_drew HO_0.out)
               have n1_:=Aside0.mk (Kd.V_drew HO_1.out)
               have n2_:=Aside0.mk (below_drew1 HB.out)
               clear HO_0
               clear HO_1
               clear HB
               have HO_0:=n0_
               have HO_1:=n1_
               have HB:=n2_
               clear n0_ n1_ n2_
               obtain ⟨Ao52,co52,eo52⟩:=Kd.V_slice HO_0.out
               (first | subst eo52 | (injection eo52 with f1_ f2_ f3_; have f4_:=f1_.symm; have f5_:=f3_.symm; clear f1_ f2_ f3_; subst f4_; subst f5_))
               obtain ⟨Ao53,co53,eo53⟩:=Kd.V_slice HO_1.out
               (first | subst eo53 | (injection eo53 with f1_ f2_ f3_; have f4_:=f1_.symm; have f5_:=f3_.symm; clear f1_ f2_ f3_; subst f4_; subst f5_))
               have p167:0 ≤ ((ji30):Int):=of_decide_eq_true (by first | (with_reducible assumption) | assumption)
               have q167:(ji30) < (x0_2.length:Int):=of_decide_eq_true (by first | (with_reducible assumption) | assumption)
               obtain ⟨ad167,e167,hx167_0,hx167_1,hx167_2,hx167_3,hx167_4,hx167_5,hx167_6,hx167_7,hx167_8,hx167_9,hx167_10,hx167_11,hx167_12,hx167_13,hx167_14⟩:=at_T39 (Kd.V_reads' HO_0.out).2.2 (ji30) p167 q167
               cases e167
               replace p167:=eq_true p167
               replace q167:=eq_true q167
               have p168:0 ≤ ((ji33):Int):=of_decide_eq_true (by first | (with_reducible assumption) | assumption)
               have q168:(ji33) < (x1_2.length:Int):=of_decide_eq_true (by first | (with_reducible assumption) | assumption)
               obtain ⟨ad168,e168,hx168_0,hx168_1,hx168_2,hx168_3,hx168_4,hx168_5,hx168_6,hx168_7,hx168_8,hx168_9,hx168_10,hx168_11,hx168_12,hx168_13,hx168_14⟩:=at_T39 (Kd.V_reads' HO_1.out).2.2 (ji33) p168 q168
               cases e168
               replace p168:=eq_true p168
               replace q168:=eq_true q168
               refine start_ (n:=23) (S:=fun w' => w'.cell? (ad167.add (((ji30)).toNat * 15)) = some (.int .i64 ((rd_T39 x0_2 (ji30)).f0)) ∧ w'.cell? ⟨(ad167.add (((ji30)).toNat * 15)).block,(ad167.add (((ji30)).toNat * 15)).off + 1,none⟩ = some (.int .i64 ((rd_T39 x0_2 (ji30)).f1)) ∧ w'.cell? ⟨(ad167.add (((ji30)).toNat * 15)).block,(ad167.add (((ji30)).toNat * 15)).off + 2,none⟩ = some (.int .i64 ((rd_T39 x0_2 (ji30)).f2.f0)) ∧ w'.cell? ⟨(ad167.add (((ji30)).toNat * 15)).block,(ad167.add (((ji30)).toNat * 15)).off + 3,none⟩ = some (.int .i64 ((rd_T39 x0_2 (ji30)).f2.f1)) ∧ w'.cell? ⟨(ad167.add (((ji30)).toNat * 15)).block,(ad167.add (((ji30)).toNat * 15)).off + 4,none⟩ = some (.int .i64 ((rd_T39 x0_2 (ji30)).f2.f2)) ∧ w'.cell? ⟨(ad167.add (((ji30)).toNat * 15)).block,(ad167.add (((ji30)).toNat * 15)).off + 5,none⟩ = some (.int .i64 ((rd_T39 x0_2 (ji30)).f2.f3)) ∧ w'.cell? ⟨(ad167.add (((ji30)).toNat * 15)).block,(ad167.add (((ji30)).toNat * 15)).off + 6,none⟩ = some (.int .i64 ((rd_T39 x0_2 (ji30)).f3.f0)) ∧ w'.cell? ⟨(ad167.add (((ji30)).toNat * 15)).block,(ad167.add (((ji30)).toNat * 15)).off + 7,none⟩ = some (.int .i64 ((rd_T39 x0_2 (ji30)).f3.f1)) ∧ w'.cell? ⟨(ad167.add (((ji30)).toNat * 15)).block,(ad167.add (((ji30)).toNat * 15)).off + 8,none⟩ = some (.int .i64 ((rd_T39 x0_2 (ji30)).f3.f2)) ∧ w'.cell? ⟨(ad167.add (((ji30)).toNat * 15)).block,(ad167.add (((ji30)).toNat * 15)).off + 9,none⟩ = some (.int .i64 ((rd_T39 x0_2 (ji30)).f3.f3)) ∧ w'.cell? ⟨(ad167.add (((ji30)).toNat * 15)).block,(ad167.add (((ji30)).toNat * 15)).off + 10,none⟩ = some (.int .i64 ((rd_T39 x0_2 (ji30)).f4.f0)) ∧ w'.cell? ⟨(ad167.add (((ji30)).toNat * 15)).block,(ad167.add (((ji30)).toNat * 15)).off + 11,none⟩ = some (.int .i64 ((rd_T39 x0_2 (ji30)).f4.f1)) ∧ w'.cell? ⟨(ad167.add (((ji30)).toNat * 15)).block,(ad167.add (((ji30)).toNat * 15)).off + 12,none⟩ = some (.int .i64 ((rd_T39 x0_2 (ji30)).f4.f2)) ∧ w'.cell? ⟨(ad167.add (((ji30)).toNat * 15)).block,(ad167.add (((ji30)).toNat * 15)).off + 13,none⟩ = some (.int .i64 ((rd_T39 x0_2 (ji30)).f4.f3)) ∧ w'.cell? ⟨(ad167.add (((ji30)).toNat * 15)).block,(ad167.add (((ji30)).toNat * 15)).off + 14,none⟩ = some (.int .i64 ((rd_T39 x0_2 (ji30)).f5)) ∧ w'.cell? (ad168.add (((ji33)).toNat * 15)) = some (.int .i64 ((rd_T39 x1_2 (ji33)).f0)) ∧ w'.cell? ⟨(ad168.add (((ji33)).toNat * 15)).block,(ad168.add (((ji33)).toNat * 15)).off + 1,none⟩ = some (.int .i64 ((rd_T39 x1_2 (ji33)).f1)) ∧ w'.cell? ⟨(ad168.add (((ji33)).toNat * 15)).block,(ad168.add (((ji33)).toNat * 15)).off + 2,none⟩ = some (.int .i64 ((rd_T39 x1_2 (ji33)).f2.f0)) ∧ w'.cell? ⟨(ad168.add (((ji33)).toNat * 15)).block,(ad168.add (((ji33)).toNat * 15)).off + 3,none⟩ = some (.int .i64 ((rd_T39 x1_2 (ji33)).f2.f1)) ∧ w'.cell? ⟨(ad168.add (((ji33)).toNat * 15)).block,(ad168.add (((ji33)).toNat * 15)).off + 4,none⟩ = some (.int .i64 ((rd_T39 x1_2 (ji33)).f2.f2)) ∧ w'.cell? ⟨(ad168.add (((ji33)).toNat * 15)).block,(ad168.add (((ji33)).toNat * 15)).off + 5,none⟩ = some (.int .i64 ((rd_T39 x1_2 (ji33)).f2.f3)) ∧ w'.cell? ⟨(ad168.add (((ji33)).toNat * 15)).block,(ad168.add (((ji33)).toNat * 15)).off + 6,none⟩ = some (.int .i64 ((rd_T39 x1_2 (ji33)).f3.f0)) ∧ w'.cell? ⟨(ad168.add (((ji33)).toNat * 15)).block,(ad168.add (((ji33)).toNat * 15)).off + 7,none⟩ = some (.int .i64 ((rd_T39 x1_2 (ji33)).f3.f1)) ∧ w'.cell? ⟨(ad168.add (((ji33)).toNat * 15)).block,(ad168.add (((ji33)).toNat * 15)).off + 8,none⟩ = some (.int .i64 ((rd_T39 x1_2 (ji33)).f3.f2)) ∧ w'.cell? ⟨(ad168.add (((ji33)).toNat * 15)).block,(ad168.add (((ji33)).toNat * 15)).off + 9,none⟩ = some (.int .i64 ((rd_T39 x1_2 (ji33)).f3.f3)) ∧ w'.cell? ⟨(ad168.add (((ji33)).toNat * 15)).block,(ad168.add (((ji33)).toNat * 15)).off + 10,none⟩ = some (.int .i64 ((rd_T39 x1_2 (ji33)).f4.f0)) ∧ w'.cell? ⟨(ad168.add (((ji33)).toNat * 15)).block,(ad168.add (((ji33)).toNat * 15)).off + 11,none⟩ = some (.int .i64 ((rd_T39 x1_2 (ji33)).f4.f1)) ∧ w'.cell? ⟨(ad168.add (((ji33)).toNat * 15)).block,(ad168.add (((ji33)).toNat * 15)).off + 12,none⟩ = some (.int .i64 ((rd_T39 x1_2 (ji33)).f4.f2)) ∧ w'.cell? ⟨(ad168.add (((ji33)).toNat * 15)).block,(ad168.add (((ji33)).toNat * 15)).off + 13,none⟩ = some (.int .i64 ((rd_T39 x1_2 (ji33)).f4.f3)) ∧ w'.cell? ⟨(ad168.add (((ji33)).toNat * 15)).block,(ad168.add (((ji33)).toNat * 15)).off + 14,none⟩ = some (.int .i64 ((rd_T39 x1_2 (ji33)).f5))) (ds:=[]) #[false,false,false,false,false,false,false,false,false,false,false,false,false,false,false,false,false,false,false,false,false,false,false] (by kernel_rfl) rfl rfl ⟨hx167_0,hx167_1,hx167_2,hx167_3,hx167_4,hx167_5,hx167_6,hx167_7,hx167_8,hx167_9,hx167_10,hx167_11,hx167_12,hx167_13,hx167_14,hx168_0,hx168_1,hx168_2,hx168_3,hx168_4,hx168_5,hx168_6,hx168_7,hx168_8,hx168_9,hx168_10,hx168_11,hx168_12,hx168_13,hx168_14⟩ (fun hHeld => ?_); refine with_tabW harm_Parts.tab3 harm_Parts.bits3 (fun HT_ HW_ => ?_)
               generalize wr.drew = w51 at HO_0 HO_1 HB hx167_0 hx167_1 hx167_10 hx167_11 hx167_12 hx167_13 hx167_14 hx167_2 hx167_3 hx167_4 hx167_5 hx167_6 hx167_7 hx167_8 hx167_9 hx168_0 hx168_1 hx168_10 hx168_11 hx168_12 hx168_13 hx168_14 hx168_2 hx168_3 hx168_4 hx168_5 hx168_6 hx168_7 hx168_8 hx168_9 hHeld ⊢
               refine pure_ (i:=0) (N:=some 27) (v:=?_) (a':=?_) #[true,false,false,false,false,false,false,false,false,false,false,false,false,false,false,false,false,false,false,false,false,false,false] rfl rfl (any_of HT_.out (by kernel_rfl)) (fun _ _ _ h => h) (Or.inl ⟨by rfl,?_⟩) ?_ ?_
               rotate_left
               ·intro w'
                go_simp
                with_reducible rfl
               rotate_left
               ·simp only [Act.put,List.setIfInBounds_toArray,List.set_cons_zero,List.set_cons_succ,i64_w,i32_w]
                rfl
               refine pure_ (i:=1) (N:=some 28) (v:=?_) (a':=?_) #[true,true,false,false,false,false,false,false,false,false,false,false,false,false,false,false,false,false,false,false,false,false,false] rfl rfl (any_of HT_.out (by kernel_rfl)) (fun _ _ _ h => h) (Or.inl ⟨by rfl,?_⟩) ?_ ?_
               rotate_left
               ·intro w'
                go_simp
                with_reducible rfl
               rotate_left
               ·simp only [Act.put,List.setIfInBounds_toArray,List.set_cons_zero,List.set_cons_succ,i64_w,i32_w]
                rfl
               refine pure_ (i:=2) (N:=some 29) (v:=?_) (a':=?_) #[true,true,true,false,false,false,false,false,false,false,false,false,false,false,false,false,false,false,false,false,false,false,false] rfl rfl (any_of HT_.out (by kernel_rfl)) (fun _ _ _ h => h) (Or.inl ⟨by rfl,?_⟩) ?_ ?_
               rotate_left
               ·intro w'
                go_simp
                with_reducible rfl
               rotate_left
               ·simp only [Act.put,List.setIfInBounds_toArray,List.set_cons_zero,List.set_cons_succ,i64_w,i32_w]
                rfl
               refine pure_ (i:=3) (N:=some 30) (v:=?_) (a':=?_) #[true,true,true,true,false,false,false,false,false,false,false,false,false,false,false,false,false,false,false,false,false,false,false] rfl rfl (any_of HT_.out (by kernel_rfl)) (fun _ _ _ h => h) (Or.inl ⟨by rfl,?_⟩) ?_ ?_
               rotate_left
               ·intro w'
                go_simp
                with_reducible rfl
               rotate_left
               ·simp only [Act.put,List.setIfInBounds_toArray,List.set_cons_zero,List.set_cons_succ,i64_w,i32_w]
                rfl
               refine pure_ (i:=4) (N:=some 31) (v:=?_) (a':=?_) #[true,true,true,true,true,false,false,false,false,false,false,false,false,false,false,false,false,false,false,false,false,false,false] rfl rfl (any_of HT_.out (by kernel_rfl)) (fun _ _ _ h => h) (Or.inl ⟨by rfl,?_⟩) ?_ ?_
               rotate_left
               ·intro w'
                go_simp
                with_reducible rfl
               rotate_left
               ·simp only [Act.put,List.setIfInBounds_toArray,List.set_cons_zero,List.set_cons_succ,i64_w,i32_w]
                rfl
               refine pure_ (i:=5) (N:=some 32) (v:=?_) (a':=?_) #[true,true,true,true,true,true,false,false,false,false,false,false,false,false,false,false,false,false,false,false,false,false,false] rfl rfl (any_of HT_.out (by kernel_rfl)) (fun _ _ _ h => h) (Or.inl ⟨by rfl,?_⟩) ?_ ?_
               rotate_left
               ·intro w'
                go_simp
                with_reducible rfl
               rotate_left
               ·simp only [Act.put,List.setIfInBounds_toArray,List.set_cons_zero,List.set_cons_succ,i64_w,i32_w]
                rfl
               refine pure_ (i:=6) (N:=some 33) (v:=?_) (a':=?_) #[true,true,true,true,true,true,true,false,false,false,false,false,false,false,false,false,false,false,false,false,false,false,false] rfl rfl (any_of HT_.out (by kernel_rfl)) (fun _ _ _ h => h) (Or.inl ⟨by rfl,?_⟩) ?_ ?_
               rotate_left
               ·intro w'
                go_simp
                with_reducible rfl
               rotate_left
               ·simp only [Act.put,List.setIfInBounds_toArray,List.set_cons_zero,List.set_cons_succ,i64_w,i32_w]
                rfl
               refine pure_ (i:=7) (N:=some 34) (v:=?_) (a':=?_) #[true,true,true,true,true,true,true,true,false,false,false,false,false,false,false,false,false,false,false,false,false,false,false] rfl rfl (any_of HT_.out (by kernel_rfl)) (fun _ _ _ h => h) (Or.inl ⟨by rfl,?_⟩) ?_ ?_
               rotate_left
               ·intro w'
                go_simp
                with_reducible rfl
               rotate_left
               ·simp only [Act.put,List.setIfInBounds_toArray,List.set_cons_zero,List.set_cons_succ,i64_w,i32_w]
                rfl
               refine pure_ (i:=8) (N:=some 35) (v:=?_) (a':=?_) #[true,true,true,true,true,true,true,true,true,false,false,false,false,false,false,false,false,false,false,false,false,false,false] rfl rfl (any_of HT_.out (by kernel_rfl)) (fun _ _ _ h => h) (Or.inl ⟨by rfl,?_⟩) ?_ ?_
               rotate_left
               ·intro w'
                go_simp
                with_reducible rfl
               rotate_left
               ·simp only [Act.put,List.setIfInBounds_toArray,List.set_cons_zero,List.set_cons_succ,i64_w,i32_w]
                rfl
               refine pure_ (i:=9) (N:=some 36) (v:=?_) (a':=?_) #[true,true,true,true,true,true,true,true,true,true,false,false,false,false,false,false,false,false,false,false,false,false,false] rfl rfl (any_of HT_.out (by kernel_rfl)) (fun _ _ _ h => h) (Or.inl ⟨by rfl,?_⟩) ?_ ?_
               rotate_left
               ·intro w'
                go_simp
                with_reducible rfl
               rotate_left
               ·simp only [Act.put,List.setIfInBounds_toArray,List.set_cons_zero,List.set_cons_succ,i64_w,i32_w]
                rfl
               refine pure_ (i:=10) (N:=some 37) (v:=?_) (a':=?_) #[true,true,true,true,true,true,true,true,true,true,true,false,false,false,false,false,false,false,false,false,false,false,false] rfl rfl (any_of HT_.out (by kernel_rfl)) (fun _ _ _ h => h) (Or.inl ⟨by rfl,?_⟩) ?_ ?_
               rotate_left
               ·intro w'
                go_simp
                with_reducible rfl
               rotate_left
               ·simp only [Act.put,List.setIfInBounds_toArray,List.set_cons_zero,List.set_cons_succ,i64_w,i32_w]
                rfl
               refine pure_ (i:=11) (N:=some 38) (v:=?_) (a':=?_) #[true,true,true,true,true,true,true,true,true,true,true,true,false,false,false,false,false,false,false,false,false,false,false] rfl rfl (any_of HT_.out (by kernel_rfl)) (fun _ _ _ h => h) (Or.inl ⟨by rfl,?_⟩) ?_ ?_
               rotate_left
               ·intro w'
                go_simp
                with_reducible rfl
               rotate_left
               ·simp only [Act.put,List.setIfInBounds_toArray,List.set_cons_zero,List.set_cons_succ,i64_w,i32_w]
                rfl
               refine pure_ (i:=12) (N:=some 39) (v:=?_) (a':=?_) #[true,true,true,true,true,true,true,true,true,true,true,true,true,false,false,false,false,false,false,false,false,false,false] rfl rfl (any_of HT_.out (by kernel_rfl)) (fun _ _ _ h => h) (Or.inl ⟨by rfl,?_⟩) ?_ ?_
               rotate_left
               ·intro w'
                go_simp
                with_reducible rfl
               rotate_left
               ·simp only [Act.put,List.setIfInBounds_toArray,List.set_cons_zero,List.set_cons_succ,i64_w,i32_w]
                rfl
               refine pure_ (i:=13) (N:=some 40) (v:=?_) (a':=?_) #[true,true,true,true,true,true,true,true,true,true,true,true,true,true,false,false,false,false,false,false,false,false,false] rfl rfl (any_of HT_.out (by kernel_rfl)) (fun _ _ _ h => h) (Or.inl ⟨by rfl,?_⟩) ?_ ?_
               rotate_left
               ·intro w'
                go_simp
                with_reducible rfl
               rotate_left
               ·simp only [Act.put,List.setIfInBounds_toArray,List.set_cons_zero,List.set_cons_succ,i64_w,i32_w]
                rfl
               refine pure_ (i:=15) (N:=some 42) (v:=?_) (a':=?_) #[true,true,true,true,true,true,true,true,true,true,true,true,true,true,false,true,false,false,false,false,false,false,false] rfl rfl (any_of HT_.out (by kernel_rfl)) (fun _ _ _ h => h) (Or.inl ⟨by rfl,?_⟩) ?_ ?_
               rotate_left
               ·intro w'
                go_simp
                with_reducible rfl
               rotate_left
               ·simp only [Act.put,List.setIfInBounds_toArray,List.set_cons_zero,List.set_cons_succ,i64_w,i32_w]
                rfl
               refine pure_ (i:=16) (N:=some 43) (v:=?_) (a':=?_) #[true,true,true,true,true,true,true,true,true,true,true,true,true,true,false,true,true,false,false,false,false,false,false] rfl rfl (any_of HT_.out (by kernel_rfl)) (fun _ _ _ h => h) (Or.inl ⟨by rfl,?_⟩) ?_ ?_
               rotate_left
               ·intro w'
                go_simp
                with_reducible rfl
               rotate_left
               ·simp only [Act.put,List.setIfInBounds_toArray,List.set_cons_zero,List.set_cons_succ,i64_w,i32_w]
                rfl
               refine pure_ (i:=17) (N:=some 44) (v:=?_) (a':=?_) #[true,true,true,true,true,true,true,true,true,true,true,true,true,true,false,true,true,true,false,false,false,false,false] rfl rfl (any_of HT_.out (by kernel_rfl)) (fun _ _ _ h => h) (Or.inl ⟨by rfl,?_⟩) ?_ ?_
               rotate_left
               ·intro w'
                go_simp
                with_reducible rfl
               rotate_left
               ·simp only [Act.put,List.setIfInBounds_toArray,List.set_cons_zero,List.set_cons_succ,i64_w,i32_w]
                rfl
               refine pure_ (i:=18) (N:=some 45) (v:=?_) (a':=?_) #[true,true,true,true,true,true,true,true,true,true,true,true,true,true,false,true,true,true,true,false,false,false,false] rfl rfl (any_of HT_.out (by kernel_rfl)) (fun _ _ _ h => h) (Or.inl ⟨by rfl,?_⟩) ?_ ?_
               rotate_left
               ·intro w'
                go_simp
                with_reducible rfl
               rotate_left
               ·simp only [Act.put,List.setIfInBounds_toArray,List.set_cons_zero,List.set_cons_succ,i64_w,i32_w]
                rfl
               refine pure_ (i:=19) (N:=some 46) (v:=?_) (a':=?_) #[true,true,true,true,true,true,true,true,true,true,true,true,true,true,false,true,true,true,true,true,false,false,false] rfl rfl (any_of HT_.out (by kernel_rfl)) (fun _ _ _ h => h) (Or.inl ⟨by rfl,?_⟩) ?_ ?_
               rotate_left
               ·intro w'
                go_simp
                with_reducible rfl
               rotate_left
               ·simp only [Act.put,List.setIfInBounds_toArray,List.set_cons_zero,List.set_cons_succ,i64_w,i32_w]
                rfl
               refine take_ (i:=14) (N:=some 41) (v:=?_) (a':=?_) #[true,true,true,true,true,true,true,true,true,true,true,true,true,true,true,true,true,true,true,true,false,false,false] rfl rfl (take_ofW HT_.out HW_.out (by kernel_rfl)) (fun _ _ _ h => h) (Or.inl ⟨by rfl,?_⟩) hHeld ?_ ?_
               rotate_left
               ·rintro w' ⟨s0,s1,s2,s3,s4,s5,s6,s7,s8,s9,s10,s11,s12,s13,s14,s15,s16,s17,s18,s19,s20,s21,s22,s23,s24,s25,s26,s27,s28,s29⟩
                go_simp
                with_reducible rfl
               rotate_left
               ·simp only [Act.put,List.setIfInBounds_toArray,List.set_cons_zero,List.set_cons_succ,i64_w,i32_w]
                rfl
               refine take_ (i:=20) (N:=some 47) (v:=?_) (a':=?_) #[true,true,true,true,true,true,true,true,true,true,true,true,true,true,true,true,true,true,true,true,true,false,false] rfl rfl (take_ofW HT_.out HW_.out (by kernel_rfl)) (fun _ _ _ h => h) (Or.inl ⟨by rfl,?_⟩) hHeld ?_ ?_
               rotate_left
               ·rintro w' ⟨s0,s1,s2,s3,s4,s5,s6,s7,s8,s9,s10,s11,s12,s13,s14,s15,s16,s17,s18,s19,s20,s21,s22,s23,s24,s25,s26,s27,s28,s29⟩
                go_simp
                with_reducible rfl
               rotate_left
               ·simp only [Act.put,List.setIfInBounds_toArray,List.set_cons_zero,List.set_cons_succ,i64_w,i32_w]
                rfl
               refine one_ (i:=21) (N:=some 48) #[true,true,true,true,true,true,true,true,true,true,true,true,true,true,true,true,true,true,true,true,true,true,false] rfl rfl (one_of HT_.out (by kernel_rfl)) (by decide) (fun K hK => ?_)
               refine goes_ Try.func24 (by kernel_rfl) rfl #[.agg #[.int .i64 ((rd_T39 x0_2 (ji30)).f0),.int .i64 ((rd_T39 x0_2 (ji30)).f1),.int .i64 ((rd_T39 x0_2 (ji30)).f2.f0),.int .i64 ((rd_T39 x0_2 (ji30)).f2.f1),.int .i64 ((rd_T39 x0_2 (ji30)).f2.f2),.int .i64 ((rd_T39 x0_2 (ji30)).f2.f3),.int .i64 ((rd_T39 x0_2 (ji30)).f3.f0),.int .i64 ((rd_T39 x0_2 (ji30)).f3.f1),.int .i64 ((rd_T39 x0_2 (ji30)).f3.f2),.int .i64 ((rd_T39 x0_2 (ji30)).f3.f3),.int .i64 ((rd_T39 x0_2 (ji30)).f4.f0),.int .i64 ((rd_T39 x0_2 (ji30)).f4.f1),.int .i64 ((rd_T39 x0_2 (ji30)).f4.f2),.int .i64 ((rd_T39 x0_2 (ji30)).f4.f3),.int .i64 ((rd_T39 x0_2 (ji30)).f5)],.agg #[.int .i64 ((rd_T39 x1_2 (ji33)).f0),.int .i64 ((rd_T39 x1_2 (ji33)).f1),.int .i64 ((rd_T39 x1_2 (ji33)).f2.f0),.int .i64 ((rd_T39 x1_2 (ji33)).f2.f1),.int .i64 ((rd_T39 x1_2 (ji33)).f2.f2),.int .i64 ((rd_T39 x1_2 (ji33)).f2.f3),.int .i64 ((rd_T39 x1_2 (ji33)).f3.f0),.int .i64 ((rd_T39 x1_2 (ji33)).f3.f1),.int .i64 ((rd_T39 x1_2 (ji33)).f3.f2),.int .i64 ((rd_T39 x1_2 (ji33)).f3.f3),.int .i64 ((rd_T39 x1_2 (ji33)).f4.f0),.int .i64 ((rd_T39 x1_2 (ji33)).f4.f1),.int .i64 ((rd_T39 x1_2 (ji33)).f4.f2),.int .i64 ((rd_T39 x1_2 (ji33)).f4.f3),.int .i64 ((rd_T39 x1_2 (ji33)).f5)]] (by rfl) rfl rfl (by (try simp only [List.map_toArray,List.map_cons,List.map_nil]); first | done | (simp only [hji30,hji33]; rfl) | rfl | (simp only [List.length_drop,List.length_take]; rfl)) ?_
               with_reducible refine (harm_Alike.calls ((rd_T39 x0_2 (ji30)).f0) ((rd_T39 x0_2 (ji30)).f1) ((rd_T39 x0_2 (ji30)).f2.f0) ((rd_T39 x0_2 (ji30)).f2.f1) ((rd_T39 x0_2 (ji30)).f2.f2) ((rd_T39 x0_2 (ji30)).f2.f3) ((rd_T39 x0_2 (ji30)).f3.f0) ((rd_T39 x0_2 (ji30)).f3.f1) ((rd_T39 x0_2 (ji30)).f3.f2) ((rd_T39 x0_2 (ji30)).f3.f3) ((rd_T39 x0_2 (ji30)).f4.f0) ((rd_T39 x0_2 (ji30)).f4.f1) ((rd_T39 x0_2 (ji30)).f4.f2) ((rd_T39 x0_2 (ji30)).f4.f3) ((rd_T39 x0_2 (ji30)).f5) ((rd_T39 x1_2 (ji33)).f0) ((rd_T39 x1_2 (ji33)).f1) ((rd_T39 x1_2 (ji33)).f2.f0) ((rd_T39 x1_2 (ji33)).f2.f1) ((rd_T39 x1_2 (ji33)).f2.f2) ((rd_T39 x1_2 (ji33)).f2.f3) ((rd_T39 x1_2 (ji33)).f3.f0) ((rd_T39 x1_2 (ji33)).f3.f1) ((rd_T39 x1_2 (ji33)).f3.f2) ((rd_T39 x1_2 (ji33)).f3.f3) ((rd_T39 x1_2 (ji33)).f4.f0) ((rd_T39 x1_2 (ji33)).f4.f1) ((rd_T39 x1_2 (ji33)).f4.f2) ((rd_T39 x1_2 (ji33)).f4.f3) ((rd_T39 x1_2 (ji33)).f5) false _ A36.out).mono ?_
               rintro e w54 ⟨rfl,hb⟩
               have HS0_:=(hb.cell (World.block_lt_of_cell? _ _ (hHeld.1))).trans (hHeld.1)
               have HS1_:=(hb.cell (World.block_lt_of_cell? _ _ (hHeld.2.1))).trans (hHeld.2.1)
               have HS2_:=(hb.cell (World.block_lt_of_cell? _ _ (hHeld.2.2.1))).trans (hHeld.2.2.1)
               have HS3_:=(hb.cell (World.block_lt_of_cell? _ _ (hHeld.2.2.2.1))).trans (hHeld.2.2.2.1)
               have HS4_:=(hb.cell (World.block_lt_of_cell? _ _ (hHeld.2.2.2.2.1))).trans (hHeld.2.2.2.2.1)
               have HS5_:=(hb.cell (World.block_lt_of_cell? _ _ (hHeld.2.2.2.2.2.1))).trans (hHeld.2.2.2.2.2.1)
               have HS6_:=(hb.cell (World.block_lt_of_cell? _ _ (hHeld.2.2.2.2.2.2.1))).trans (hHeld.2.2.2.2.2.2.1)
               have HS7_:=(hb.cell (World.block_lt_of_cell? _ _ (hHeld.2.2.2.2.2.2.2.1))).trans (hHeld.2.2.2.2.2.2.2.1)
               have HS8_:=(hb.cell (World.block_lt_of_cell? _ _ (hHeld.2.2.2.2.2.2.2.2.1))).trans (hHeld.2.2.2.2.2.2.2.2.1)
               have HS9_:=(hb.cell (World.block_lt_of_cell? _ _ (hHeld.2.2.2.2.2.2.2.2.2.1))).trans (hHeld.2.2.2.2.2.2.2.2.2.1)
               have HS10_:=(hb.cell (World.block_lt_of_cell? _ _ (hHeld.2.2.2.2.2.2.2.2.2.2.1))).trans (hHeld.2.2.2.2.2.2.2.2.2.2.1)
               have HS11_:=(hb.cell (World.block_lt_of_cell? _ _ (hHeld.2.2.2.2.2.2.2.2.2.2.2.1))).trans (hHeld.2.2.2.2.2.2.2.2.2.2.2.1)
               have HS12_:=(hb.cell (World.block_lt_of_cell? _ _ (hHeld.2.2.2.2.2.2.2.2.2.2.2.2.1))).trans (hHeld.2.2.2.2.2.2.2.2.2.2.2.2.1)
               have HS13_:=(hb.cell (World.block_lt_of_cell? _ _ (hHeld.2.2.2.2.2.2.2.2.2.2.2.2.2.1))).trans (hHeld.2.2.2.2.2.2.2.2.2.2.2.2.2.1)
               have HS14_:=(hb.cell (World.block_lt_of_cell? _ _ (hHeld.2.2.2.2.2.2.2.2.2.2.2.2.2.2.1))).trans (hHeld.2.2.2.2.2.2.2.2.2.2.2.2.2.2.1)
               have HS15_:=(hb.cell (World.block_lt_of_cell? _ _ (hHeld.2.2.2.2.2.2.2.2.2.2.2.2.2.2.2.1))).trans (hHeld.2.2.2.2.2.2.2.2.2.2.2.2.2.2.2.1)
               have HS16_:=(hb.cell (World.block_lt_of_cell? _ _ (hHeld.2.2.2.2.2.2.2.2.2.2.2.2.2.2.2.2.1))).trans (hHeld.2.2.2.2.2.2.2.2.2.2.2.2.2.2.2.2.1)
               have HS17_:=(hb.cell (World.block_lt_of_cell? _ _ (hHeld.2.2.2.2.2.2.2.2.2.2.2.2.2.2.2.2.2.1))).trans (hHeld.2.2.2.2.2.2.2.2.2.2.2.2.2.2.2.2.2.1)
               have HS18_:=(hb.cell (World.block_lt_of_cell? _ _ (hHeld.2.2.2.2.2.2.2.2.2.2.2.2.2.2.2.2.2.2.1))).trans (hHeld.2.2.2.2.2.2.2.2.2.2.2.2.2.2.2.2.2.2.1)
               have HS19_:=(hb.cell (World.block_lt_of_cell? _ _ (hHeld.2.2.2.2.2.2.2.2.2.2.2.2.2.2.2.2.2.2.2.1))).trans (hHeld.2.2.2.2.2.2.2.2.2.2.2.2.2.2.2.2.2.2.2.1)
               have HS20_:=(hb.cell (World.block_lt_of_cell? _ _ (hHeld.2.2.2.2.2.2.2.2.2.2.2.2.2.2.2.2.2.2.2.2.1))).trans (hHeld.2.2.2.2.2.2.2.2.2.2.2.2.2.2.2.2.2.2.2.2.1)
               have HS21_:=(hb.cell (World.block_lt_of_cell? _ _ (hHeld.2.2.2.2.2.2.2.2.2.2.2.2.2.2.2.2.2.2.2.2.2.1))).trans (hHeld.2.2.2.2.2.2.2.2.2.2.2.2.2.2.2.2.2.2.2.2.2.1)
               have HS22_:=(hb.cell (World.block_lt_of_cell? _ _ (hHeld.2.2.2.2.2.2.2.2.2.2.2.2.2.2.2.2.2.2.2.2.2.2.1))).trans (hHeld.2.2.2.2.2.2.2.2.2.2.2.2.2.2.2.2.2.2.2.2.2.2.1)
               have HS23_:=(hb.cell (World.block_lt_of_cell? _ _ (hHeld.2.2.2.2.2.2.2.2.2.2.2.2.2.2.2.2.2.2.2.2.2.2.2.1))).trans (hHeld.2.2.2.2.2.2.2.2.2.2.2.2.2.2.2.2.2.2.2.2.2.2.2.1)
               have HS24_:=(hb.cell (World.block_lt_of_cell? _ _ (hHeld.2.2.2.2.2.2.2.2.2.2.2.2.2.2.2.2.2.2.2.2.2.2.2.2.1))).trans (hHeld.2.2.2.2.2.2.2.2.2.2.2.2.2.2.2.2.2.2.2.2.2.2.2.2.1)
               have HS25_:=(hb.cell (World.block_lt_of_cell? _ _ (hHeld.2.2.2.2.2.2.2.2.2.2.2.2.2.2.2.2.2.2.2.2.2.2.2.2.2.1))).trans (hHeld.2.2.2.2.2.2.2.2.2.2.2.2.2.2.2.2.2.2.2.2.2.2.2.2.2.1)
               have HS26_:=(hb.cell (World.block_lt_of_cell? _ _ (hHeld.2.2.2.2.2.2.2.2.2.2.2.2.2.2.2.2.2.2.2.2.2.2.2.2.2.2.1))).trans (hHeld.2.2.2.2.2.2.2.2.2.2.2.2.2.2.2.2.2.2.2.2.2.2.2.2.2.2.1)
               have HS27_:=(hb.cell (World.block_lt_of_cell? _ _ (hHeld.2.2.2.2.2.2.2.2.2.2.2.2.2.2.2.2.2.2.2.2.2.2.2.2.2.2.2.1))).trans (hHeld.2.2.2.2.2.2.2.2.2.2.2.2.2.2.2.2.2.2.2.2.2.2.2.2.2.2.2.1)
               have HS28_:=(hb.cell (World.block_lt_of_cell? _ _ (hHeld.2.2.2.2.2.2.2.2.2.2.2.2.2.2.2.2.2.2.2.2.2.2.2.2.2.2.2.2.1))).trans (hHeld.2.2.2.2.2.2.2.2.2.2.2.2.2.2.2.2.2.2.2.2.2.2.2.2.2.2.2.2.1)
               have HS29_:=(hb.cell (World.block_lt_of_cell? _ _ (hHeld.2.2.2.2.2.2.2.2.2.2.2.2.2.2.2.2.2.2.2.2.2.2.2.2.2.2.2.2.2))).trans (hHeld.2.2.2.2.2.2.2.2.2.2.2.2.2.2.2.2.2.2.2.2.2.2.2.2.2.2.2.2.2)
               refine ⟨_,rfl,?_⟩
               have n0_:=Aside0.mk (Kd.V_below (by (with_reducible repeat (first | apply Kd.V_alloc | apply Kd.V_drewN | apply Kd.V_drew)); exact HO_0.out) hb)
               have n1_:=Aside0.mk (Kd.V_below (by (with_reducible repeat (first | apply Kd.V_alloc | apply Kd.V_drewN | apply Kd.V_drew)); exact HO_1.out) hb)
               have n2_:=Aside0.mk (below_step (by repeat (first | (with_reducible first | exact HB.out | apply below_alloc | apply pw_below_drewN | apply below_drew1) | exact HB.out)) hb)
               clear HO_0
               clear HO_1
               clear HB
               have HO_0:=n0_
               have HO_1:=n1_
               have HB:=n2_
               clear n0_ n1_ n2_
               (try clear hb)
               (try clear hb2)
               (try clear hk)
               (try clear hi)
               refine hK.out _ _ ⟨HS0_,HS1_,HS2_,HS3_,HS4_,HS5_,HS6_,HS7_,HS8_,HS9_,HS10_,HS11_,HS12_,HS13_,HS14_,HS15_,HS16_,HS17_,HS18_,HS19_,HS20_,HS21_,HS22_,HS23_,HS24_,HS25_,HS26_,HS27_,HS28_,HS29_⟩ (fun hHeld => ?_)
               clear hK K
               refine norm_ (a':=?_) ?_ ?_
               rotate_left
               ·show Act.put _ (some 48) _ = _
                simp only [Act.put,List.setIfInBounds_toArray,List.set_cons_zero,List.set_cons_succ,i64_w,i32_w]
                rfl
               refine pure_ (i:=22) (N:=some 49) (v:=?_) (a':=?_) #[true,true,true,true,true,true,true,true,true,true,true,true,true,true,true,true,true,true,true,true,true,true,true] rfl rfl (any_of HT_.out (by kernel_rfl)) (fun _ _ _ h => h) (Or.inl ⟨by rfl,?_⟩) ?_ ?_
               rotate_left
               ·intro w'
                go_simp
                with_reducible rfl
               rotate_left
               ·simp only [Act.put,List.setIfInBounds_toArray,List.set_cons_zero,List.set_cons_succ,i64_w,i32_w]
                rfl
               refine done_ (done_of HT_.out (by kernel_rfl)) ?_
               try go_wp2_with (first | ((with_reducible refine gate_builtin (b:=.append) (xs:=#[.const (.slice none 0 0),.tmp 60]) rfl ?_); (try (refine gate_guard (by rfl) ?_; dsimp only)); at_builtin; refine Kd.R_append_rows k39 (w0:=w) w.heap.size rfl (.const (.slice none 0 0)) (.tmp 60) 22 39 (.agg #[(.int .i64 0),(.int .i64 0),(.int .i64 0),(.int .i64 0),(.int .i64 0),(.int .i64 0),(.int .i64 0),(.int .i64 0),(.int .i64 0),(.int .i64 0),(.int .i64 0),(.int .i64 0),(.int .i64 0),(.int .i64 0),(.int .i64 0)]) 120 rfl Try.underlying22 info39 rfl (by decide) (by omega) (.slice none 0 0) ([]:List (S39)) x0_2 _ _ _ (fun k_ => (w.heap.size ≤ k_)) (fun _ => False) rfl rfl ?aO ?aR (fun _ _ h => h) (fun _ h => h.elim) ?aF ?aB ?aS ?aL ?_; (case aR => repeat (first | exact (Kd.V_reads' HO_0.out).2.2 | (with_reducible refine Kd.C_alloc ?_ _) | (with_reducible refine Kd.C_drewN ?_ _) | (with_reducible refine Kd.C_drew ?_))); (case aB => exact (by repeat (first | (with_reducible first | exact HB.out | apply below_alloc | apply pw_below_drewN | apply below_drew1) | exact HB.out))); (case aF => exact (fun k_ hk => (Nat.le_trans (below_size (by repeat (first | (with_reducible first | exact HB.out | apply below_alloc | apply pw_below_drewN | apply below_drew1) | exact HB.out))) hk))); (case aO => exact ((Kd.R_nil _ _ _ _ (fun k_ => (w.heap.size ≤ k_))))); (case aS => exact (below_size (by repeat (first | (with_reducible first | exact HB.out | apply below_alloc | apply pw_below_drewN | apply below_drew1) | exact HB.out)))); (case aL => have:=LMc49.out; omega); intro v181 w55 ho hb hg hat; rw [← Ny180.out] at ho; have n0_:=Aside0.mk (Kd.V_afterv (Kd.V_apart_nil (by (with_reducible repeat (first | apply Kd.V_alloc | apply Kd.V_drewN | apply Kd.V_drew)); exact HO_0.out)) hg hat); have n1_:=Aside0.mk (Kd.V_afterv (Kd.V_apart_nil (by (with_reducible repeat (first | apply Kd.V_alloc | apply Kd.V_drewN | apply Kd.V_drew)); exact HO_1.out)) hg hat); have n2_:=Aside0.mk (hb); have n3_:=Aside0.mk (ho); clear HO_0; clear HO_1; clear HB; have HO_0:=n0_; have HO_1:=n1_; have HB:=n2_; have HO182:=n3_; clear n0_ n1_ n2_ n3_; clear ho hb hg hat) | ((with_reducible refine gate_builtin (b:=.append) (xs:=#[.const (.slice none 0 0),.tmp 62]) rfl ?_); (try (refine gate_guard (by rfl) ?_; dsimp only)); at_builtin; refine Kd.R_append_rows k39 (w0:=w) w.heap.size rfl (.const (.slice none 0 0)) (.tmp 62) 22 39 (.agg #[(.int .i64 0),(.int .i64 0),(.int .i64 0),(.int .i64 0),(.int .i64 0),(.int .i64 0),(.int .i64 0),(.int .i64 0),(.int .i64 0),(.int .i64 0),(.int .i64 0),(.int .i64 0),(.int .i64 0),(.int .i64 0),(.int .i64 0)]) 120 rfl Try.underlying22 info39 rfl (by decide) (by omega) (.slice none 0 0) ([]:List (S39)) x1_2 _ _ _ (fun k_ => (w.heap.size ≤ k_) ∧ some k_ ≠ (v181:Value).ownBlock) (fun _ => False) rfl rfl ?aO ?aR (fun _ _ h => h) (fun _ h => h.elim) ?aF ?aB ?aS ?aL ?_; (case aR => repeat (first | exact (Kd.V_reads' HO_1.out).2.2 | (with_reducible refine Kd.C_alloc ?_ _) | (with_reducible refine Kd.C_drewN ?_ _) | (with_reducible refine Kd.C_drew ?_))); (case aB => exact (by repeat (first | (with_reducible first | exact HB.out | apply below_alloc | apply pw_below_drewN | apply below_drew1) | exact HB.out))); (case aF => exact (fun k_ hk => ⟨(Nat.le_trans (below_size (by repeat (first | (with_reducible first | exact HB.out | apply below_alloc | apply pw_below_drewN | apply below_drew1) | exact HB.out))) hk),Kd.fresh' (Kd.R_lt (by (with_reducible repeat (first | apply Kd.R_alloc | apply Kd.R_drewN | apply Kd.R_drew)); exact HO182.out)) k_ hk⟩)); (case aO => exact ((Kd.R_nil _ _ _ _ (fun k_ => (w.heap.size ≤ k_) ∧ some k_ ≠ (v181:Value).ownBlock)))); (case aS => exact (below_size (by repeat (first | (with_reducible first | exact HB.out | apply below_alloc | apply pw_below_drewN | apply below_drew1) | exact HB.out)))); (case aL => have:=LMc50.out; omega); intro v184 w56 ho hb hg hat; rw [← Ny183.out] at ho; have n0_:=Aside0.mk (Kd.V_afterv (Kd.V_apart_nil (by (with_reducible repeat (first | apply Kd.V_alloc | apply Kd.V_drewN | apply Kd.V_drew)); exact HO_0.out)) hg hat); have n1_:=Aside0.mk (Kd.V_afterv (Kd.V_apart_nil (by (with_reducible repeat (first | apply Kd.V_alloc | apply Kd.V_drewN | apply Kd.V_drew)); exact HO_1.out)) hg hat); have n2_:=Aside0.mk (Kd.R_after (Kd.R_apart_nil (by (with_reducible repeat (first | apply Kd.R_alloc | apply Kd.R_drewN | apply Kd.R_drew)); exact HO182.out)) hg hat); have n3_:=Aside0.mk (hb); have n4_:=Aside0.mk (ho); clear HO_0; clear HO_1; clear HO182; clear HB; have HO_0:=n0_; have HO_1:=n1_; have HO182:=n2_; have HB:=n3_; have HO185:=n4_; clear n0_ n1_ n2_ n3_ n4_; clear ho hb hg hat))
               go_ret2
               exact ⟨_,_,by first | rfl | (simp [errW_none,errW_some] <;> rfl) | (simp only [← hji30,← hji33]; first | rfl | (simp [errW_none,errW_some] <;> rfl)) | (simp [*,errW_none,errW_some] <;> rfl),by (with_reducible repeat (first | apply Kd.R_alloc | apply Kd.R_drewN | apply Kd.R_drew)); exact HO182.out,by (with_reducible repeat (first | apply Kd.R_alloc | apply Kd.R_drewN | apply Kd.R_drew)); exact HO185.out,by repeat (first | (with_reducible first | exact HB.out | apply below_alloc | apply pw_below_drewN | apply below_drew1) | exact HB.out)⟩
              ·rw [if_neg c50] at H
               exact absurd H (by simp)
             ·rw [if_neg c49] at H
              exact absurd H (by simp)
           ·rw [if_neg c35] at H
            exact absurd H (by simp)
          ·rw [if_neg c34] at H
           exact absurd H (by simp)
         ·rw [if_neg c32] at H
          exact absurd H (by simp)
        ·rw [if_neg c31] at H
         exact absurd H (by simp)
       ·rw [if_neg c29] at H
        have c29b0:decide (0 < (x1_2.length:Int)) = false:=decide_eq_false c29
        have c29b1:decide (0 < x1_2.length) = false:=decide_eq_false (by omega)
        clear c29
        by_cases c57:([]:List (S39)).length + x0_2.length < 1172812402961
        ·rw [if_pos c57] at H
         have LMc57:=Aside0.mk c57
         clear c57
         obtain ⟨y186,hy186⟩:∃ y_:List (S39),y_ = (([]:List (S39)) ++ x0_2):=⟨_,rfl⟩
         replace H:(if ([]:List (S39)).length + x1_2.length < 1172812402961 then (some (y186,(([]:List (S39)) ++ x1_2))) else (none)) = some (r1,r2):=by first | (rw [hy186]; with_reducible exact H) | (have H2_:=(Option.bind_some _ _).symm.trans H; rw [hy186]; with_reducible exact H2_) | (have H2_:=(Option.bind_some _ _).symm.trans H; with_reducible exact H2_) | with_reducible exact H | (rw [hy186]; exact H) | exact H
         have Ny186:=Aside0.mk hy186
         clear hy186
         by_cases c58:([]:List (S39)).length + x1_2.length < 1172812402961
         ·rw [if_pos c58] at H
          have LMc58:=Aside0.mk c58
          clear c58
          obtain ⟨y189,hy189⟩:∃ y_:List (S39),y_ = (([]:List (S39)) ++ x1_2):=⟨_,rfl⟩
          replace H:(some (y186,y189)) = some (r1,r2):=by first | (rw [hy189]; with_reducible exact H) | (have H2_:=(Option.bind_some _ _).symm.trans H; rw [hy189]; with_reducible exact H2_) | (have H2_:=(Option.bind_some _ _).symm.trans H; with_reducible exact H2_) | with_reducible exact H | (rw [hy189]; exact H) | exact H
          have Ny189:=Aside0.mk hy189
          clear hy189
          simp only [Option.some.injEq,Prod.mk.injEq] at H
          obtain ⟨rfl,rfl⟩:=H
          try go_wp2
          have n0_:=Aside0.mk (Kd.V_drew HO_0.out)
          have n1_:=Aside0.mk (Kd.V_drew HO_1.out)
          have n2_:=Aside0.mk (below_drew1 HB.out)
          clear HO_0
          clear HO_1
          clear HB
          have HO_0:=n0_
          have HO_1:=n1_
          have HB:=n2_
          clear n0_ n1_ n2_
          obtain ⟨Ao60,co60,eo60⟩:=Kd.V_slice HO_0.out
          (first | subst eo60 | (injection eo60 with f1_ f2_ f3_; have f4_:=f1_.symm; have f5_:=f3_.symm; clear f1_ f2_ f3_; subst f4_; subst f5_))
          obtain ⟨Ao61,co61,eo61⟩:=Kd.V_slice HO_1.out
          (first | subst eo61 | (injection eo61 with f1_ f2_ f3_; have f4_:=f1_.symm; have f5_:=f3_.symm; clear f1_ f2_ f3_; subst f4_; subst f5_))
          refine start_ (n:=23) (S:=fun w' => True) (ds:=[]) #[false,false,false,false,false,false,false,false,false,false,false,false,false,false,false,false,false,false,false,false,false,false,false] (by kernel_rfl) rfl rfl trivial (fun hHeld => ?_); refine with_tabW harm_Parts.tab3 harm_Parts.bits3 (fun HT_ HW_ => ?_)
          generalize wr.drew = w59 at HO_0 HO_1 HB hHeld ⊢
          refine pure_ (i:=0) (N:=some 27) (v:=?_) (a':=?_) #[true,false,false,false,false,false,false,false,false,false,false,false,false,false,false,false,false,false,false,false,false,false,false] rfl rfl (any_of HT_.out (by kernel_rfl)) (fun _ _ _ h => h) (Or.inl ⟨by rfl,?_⟩) ?_ ?_
          rotate_left
          ·intro w'
           go_simp
           with_reducible rfl
          rotate_left
          ·simp only [Act.put,List.setIfInBounds_toArray,List.set_cons_zero,List.set_cons_succ,i64_w,i32_w]
           rfl
          refine pure_ (i:=1) (N:=some 28) (v:=?_) (a':=?_) #[true,true,false,false,false,false,false,false,false,false,false,false,false,false,false,false,false,false,false,false,false,false,false] rfl rfl (any_of HT_.out (by kernel_rfl)) (fun _ _ _ h => h) (Or.inl ⟨by rfl,?_⟩) ?_ ?_
          rotate_left
          ·intro w'
           go_simp
           with_reducible rfl
          rotate_left
          ·simp only [Act.put,List.setIfInBounds_toArray,List.set_cons_zero,List.set_cons_succ,i64_w,i32_w]
           rfl
          refine pure_ (i:=2) (N:=some 29) (v:=?_) (a':=?_) #[true,true,true,false,false,false,false,false,false,false,false,false,false,false,false,false,false,false,false,false,false,false,false] rfl rfl (any_of HT_.out (by kernel_rfl)) (fun _ _ _ h => h) (Or.inl ⟨by rfl,?_⟩) ?_ ?_
          rotate_left
          ·intro w'
           go_simp
           with_reducible rfl
          rotate_left
          ·simp only [Act.put,List.setIfInBounds_toArray,List.set_cons_zero,List.set_cons_succ,i64_w,i32_w]
           rfl
          refine pure_ (i:=3) (N:=some 30) (v:=?_) (a':=?_) #[true,true,true,true,false,false,false,false,false,false,false,false,false,false,false,false,false,false,false,false,false,false,false] rfl rfl (any_of HT_.out (by kernel_rfl)) (fun _ _ _ h => h) (Or.inl ⟨by rfl,?_⟩) ?_ ?_
          rotate_left
          ·intro w'
           go_simp
           with_reducible rfl
          rotate_left
          ·simp only [Act.put,List.setIfInBounds_toArray,List.set_cons_zero,List.set_cons_succ,i64_w,i32_w]
           rfl
          refine pure_ (i:=4) (N:=some 31) (v:=?_) (a':=?_) #[true,true,true,true,true,false,false,false,false,false,false,false,false,false,false,false,false,false,false,false,false,false,false] rfl rfl (any_of HT_.out (by kernel_rfl)) (fun _ _ _ h => h) (Or.inl ⟨by rfl,?_⟩) ?_ ?_
          rotate_left
          ·intro w'
           go_simp
           with_reducible rfl
          rotate_left
          ·simp only [Act.put,List.setIfInBounds_toArray,List.set_cons_zero,List.set_cons_succ,i64_w,i32_w]
           rfl
          refine pure_ (i:=5) (N:=some 32) (v:=?_) (a':=?_) #[true,true,true,true,true,true,false,false,false,false,false,false,false,false,false,false,false,false,false,false,false,false,false] rfl rfl (any_of HT_.out (by kernel_rfl)) (fun _ _ _ h => h) (Or.inl ⟨by rfl,?_⟩) ?_ ?_
          rotate_left
          ·intro w'
           go_simp
           with_reducible rfl
          rotate_left
          ·simp only [Act.put,List.setIfInBounds_toArray,List.set_cons_zero,List.set_cons_succ,i64_w,i32_w]
           rfl
          refine pure_ (i:=6) (N:=some 33) (v:=?_) (a':=?_) #[true,true,true,true,true,true,true,false,false,false,false,false,false,false,false,false,false,false,false,false,false,false,false] rfl rfl (any_of HT_.out (by kernel_rfl)) (fun _ _ _ h => h) (Or.inl ⟨by rfl,?_⟩) ?_ ?_
          rotate_left
          ·intro w'
           go_simp
           with_reducible rfl
          rotate_left
          ·simp only [Act.put,List.setIfInBounds_toArray,List.set_cons_zero,List.set_cons_succ,i64_w,i32_w]
           rfl
          refine pure_ (i:=7) (N:=some 34) (v:=?_) (a':=?_) #[true,true,true,true,true,true,true,true,false,false,false,false,false,false,false,false,false,false,false,false,false,false,false] rfl rfl (any_of HT_.out (by kernel_rfl)) (fun _ _ _ h => h) (Or.inl ⟨by rfl,?_⟩) ?_ ?_
          rotate_left
          ·intro w'
           go_simp
           with_reducible rfl
          rotate_left
          ·simp only [Act.put,List.setIfInBounds_toArray,List.set_cons_zero,List.set_cons_succ,i64_w,i32_w]
           rfl
          refine pure_ (i:=8) (N:=some 35) (v:=?_) (a':=?_) #[true,true,true,true,true,true,true,true,true,false,false,false,false,false,false,false,false,false,false,false,false,false,false] rfl rfl (any_of HT_.out (by kernel_rfl)) (fun _ _ _ h => h) (Or.inl ⟨by rfl,?_⟩) ?_ ?_
          rotate_left
          ·intro w'
           go_simp
           with_reducible rfl
          rotate_left
          ·simp only [Act.put,List.setIfInBounds_toArray,List.set_cons_zero,List.set_cons_succ,i64_w,i32_w]
           rfl
          refine pure_ (i:=9) (N:=some 36) (v:=undef) (a':=?_) #[true,true,true,true,true,true,true,true,true,true,false,false,false,false,false,false,false,false,false,false,false,false,false] rfl rfl (any_of HT_.out (by kernel_rfl)) (fun _ _ _ h => h) (Or.inr ⟨by rfl,rfl⟩) ?_ ?_
          rotate_left
          ·simp only [Act.put,List.setIfInBounds_toArray,List.set_cons_zero,List.set_cons_succ,i64_w,i32_w]
           rfl
          refine pure_ (i:=10) (N:=some 37) (v:=undef) (a':=?_) #[true,true,true,true,true,true,true,true,true,true,true,false,false,false,false,false,false,false,false,false,false,false,false] rfl rfl (any_of HT_.out (by kernel_rfl)) (fun _ _ _ h => h) (Or.inr ⟨by rfl,rfl⟩) ?_ ?_
          rotate_left
          ·simp only [Act.put,List.setIfInBounds_toArray,List.set_cons_zero,List.set_cons_succ,i64_w,i32_w]
           rfl
          refine pure_ (i:=11) (N:=some 38) (v:=undef) (a':=?_) #[true,true,true,true,true,true,true,true,true,true,true,true,false,false,false,false,false,false,false,false,false,false,false] rfl rfl (any_of HT_.out (by kernel_rfl)) (fun _ _ _ h => h) (Or.inr ⟨by rfl,rfl⟩) ?_ ?_
          rotate_left
          ·simp only [Act.put,List.setIfInBounds_toArray,List.set_cons_zero,List.set_cons_succ,i64_w,i32_w]
           rfl
          refine pure_ (i:=12) (N:=some 39) (v:=undef) (a':=?_) #[true,true,true,true,true,true,true,true,true,true,true,true,true,false,false,false,false,false,false,false,false,false,false] rfl rfl (any_of HT_.out (by kernel_rfl)) (fun _ _ _ h => h) (Or.inr ⟨by rfl,rfl⟩) ?_ ?_
          rotate_left
          ·simp only [Act.put,List.setIfInBounds_toArray,List.set_cons_zero,List.set_cons_succ,i64_w,i32_w]
           rfl
          refine pure_ (i:=13) (N:=some 40) (v:=undef) (a':=?_) #[true,true,true,true,true,true,true,true,true,true,true,true,true,true,false,false,false,false,false,false,false,false,false] rfl rfl (any_of HT_.out (by kernel_rfl)) (fun _ _ _ h => h) (Or.inr ⟨by rfl,rfl⟩) ?_ ?_
          rotate_left
          ·simp only [Act.put,List.setIfInBounds_toArray,List.set_cons_zero,List.set_cons_succ,i64_w,i32_w]
           rfl
          refine pure_ (i:=14) (N:=some 41) (v:=undef) (a':=?_) #[true,true,true,true,true,true,true,true,true,true,true,true,true,true,true,false,false,false,false,false,false,false,false] rfl rfl (any_of HT_.out (by kernel_rfl)) (fun _ _ _ h => h) (Or.inr ⟨by rfl,rfl⟩) ?_ ?_
          rotate_left
          ·simp only [Act.put,List.setIfInBounds_toArray,List.set_cons_zero,List.set_cons_succ,i64_w,i32_w]
           rfl
          refine pure_ (i:=15) (N:=some 42) (v:=undef) (a':=?_) #[true,true,true,true,true,true,true,true,true,true,true,true,true,true,true,true,false,false,false,false,false,false,false] rfl rfl (any_of HT_.out (by kernel_rfl)) (fun _ _ _ h => h) (Or.inr ⟨by rfl,rfl⟩) ?_ ?_
          rotate_left
          ·simp only [Act.put,List.setIfInBounds_toArray,List.set_cons_zero,List.set_cons_succ,i64_w,i32_w]
           rfl
          refine pure_ (i:=16) (N:=some 43) (v:=undef) (a':=?_) #[true,true,true,true,true,true,true,true,true,true,true,true,true,true,true,true,true,false,false,false,false,false,false] rfl rfl (any_of HT_.out (by kernel_rfl)) (fun _ _ _ h => h) (Or.inr ⟨by rfl,rfl⟩) ?_ ?_
          rotate_left
          ·simp only [Act.put,List.setIfInBounds_toArray,List.set_cons_zero,List.set_cons_succ,i64_w,i32_w]
           rfl
          refine pure_ (i:=17) (N:=some 44) (v:=undef) (a':=?_) #[true,true,true,true,true,true,true,true,true,true,true,true,true,true,true,true,true,true,false,false,false,false,false] rfl rfl (any_of HT_.out (by kernel_rfl)) (fun _ _ _ h => h) (Or.inr ⟨by rfl,rfl⟩) ?_ ?_
          rotate_left
          ·simp only [Act.put,List.setIfInBounds_toArray,List.set_cons_zero,List.set_cons_succ,i64_w,i32_w]
           rfl
          refine pure_ (i:=18) (N:=some 45) (v:=undef) (a':=?_) #[true,true,true,true,true,true,true,true,true,true,true,true,true,true,true,true,true,true,true,false,false,false,false] rfl rfl (any_of HT_.out (by kernel_rfl)) (fun _ _ _ h => h) (Or.inr ⟨by rfl,rfl⟩) ?_ ?_
          rotate_left
          ·simp only [Act.put,List.setIfInBounds_toArray,List.set_cons_zero,List.set_cons_succ,i64_w,i32_w]
           rfl
          refine pure_ (i:=19) (N:=some 46) (v:=undef) (a':=?_) #[true,true,true,true,true,true,true,true,true,true,true,true,true,true,true,true,true,true,true,true,false,false,false] rfl rfl (any_of HT_.out (by kernel_rfl)) (fun _ _ _ h => h) (Or.inr ⟨by rfl,rfl⟩) ?_ ?_
          rotate_left
          ·simp only [Act.put,List.setIfInBounds_toArray,List.set_cons_zero,List.set_cons_succ,i64_w,i32_w]
           rfl
          refine pure_ (i:=20) (N:=some 47) (v:=undef) (a':=?_) #[true,true,true,true,true,true,true,true,true,true,true,true,true,true,true,true,true,true,true,true,true,false,false] rfl rfl (any_of HT_.out (by kernel_rfl)) (fun _ _ _ h => h) (Or.inr ⟨by rfl,rfl⟩) ?_ ?_
          rotate_left
          ·simp only [Act.put,List.setIfInBounds_toArray,List.set_cons_zero,List.set_cons_succ,i64_w,i32_w]
           rfl
          refine pure_ (i:=21) (N:=some 48) (v:=undef) (a':=?_) #[true,true,true,true,true,true,true,true,true,true,true,true,true,true,true,true,true,true,true,true,true,true,false] rfl rfl (any_of HT_.out (by kernel_rfl)) (fun _ _ _ h => h) (Or.inr ⟨by rfl,rfl⟩) ?_ ?_
          rotate_left
          ·simp only [Act.put,List.setIfInBounds_toArray,List.set_cons_zero,List.set_cons_succ,i64_w,i32_w]
           rfl
          refine pure_ (i:=22) (N:=some 49) (v:=?_) (a':=?_) #[true,true,true,true,true,true,true,true,true,true,true,true,true,true,true,true,true,true,true,true,true,true,true] rfl rfl (any_of HT_.out (by kernel_rfl)) (fun _ _ _ h => h) (Or.inl ⟨by rfl,?_⟩) ?_ ?_
          rotate_left
          ·intro w'
           go_simp
           with_reducible rfl
          rotate_left
          ·simp only [Act.put,List.setIfInBounds_toArray,List.set_cons_zero,List.set_cons_succ,i64_w,i32_w]
           rfl
          refine done_ (done_of HT_.out (by kernel_rfl)) ?_
          try go_wp2_with (first | ((with_reducible refine gate_builtin (b:=.append) (xs:=#[.const (.slice none 0 0),.tmp 60]) rfl ?_); (try (refine gate_guard (by rfl) ?_; dsimp only)); at_builtin; refine Kd.R_append_rows k39 (w0:=w) w.heap.size rfl (.const (.slice none 0 0)) (.tmp 60) 22 39 (.agg #[(.int .i64 0),(.int .i64 0),(.int .i64 0),(.int .i64 0),(.int .i64 0),(.int .i64 0),(.int .i64 0),(.int .i64 0),(.int .i64 0),(.int .i64 0),(.int .i64 0),(.int .i64 0),(.int .i64 0),(.int .i64 0),(.int .i64 0)]) 120 rfl Try.underlying22 info39 rfl (by decide) (by omega) (.slice none 0 0) ([]:List (S39)) x0_2 _ _ _ (fun k_ => (w.heap.size ≤ k_)) (fun _ => False) rfl rfl ?aO ?aR (fun _ _ h => h) (fun _ h => h.elim) ?aF ?aB ?aS ?aL ?_; (case aR => repeat (first | exact (Kd.V_reads' HO_0.out).2.2 | (with_reducible refine Kd.C_alloc ?_ _) | (with_reducible refine Kd.C_drewN ?_ _) | (with_reducible refine Kd.C_drew ?_))); (case aB => exact (by repeat (first | (with_reducible first | exact HB.out | apply below_alloc | apply pw_below_drewN | apply below_drew1) | exact HB.out))); (case aF => exact (fun k_ hk => (Nat.le_trans (below_size (by repeat (first | (with_reducible first | exact HB.out | apply below_alloc | apply pw_below_drewN | apply below_drew1) | exact HB.out))) hk))); (case aO => exact ((Kd.R_nil _ _ _ _ (fun k_ => (w.heap.size ≤ k_))))); (case aS => exact (below_size (by repeat (first | (with_reducible first | exact HB.out | apply below_alloc | apply pw_below_drewN | apply below_drew1) | exact HB.out)))); (case aL => have:=LMc57.out; omega); intro v187 w62 ho hb hg hat; rw [← Ny186.out] at ho; have n0_:=Aside0.mk (Kd.V_afterv (Kd.V_apart_nil (by (with_reducible repeat (first | apply Kd.V_alloc | apply Kd.V_drewN | apply Kd.V_drew)); exact HO_0.out)) hg hat); have n1_:=Aside0.mk (Kd.V_afterv (Kd.V_apart_nil (by (with_reducible repeat (first | apply Kd.V_alloc | apply Kd.V_drewN | apply Kd.V_drew)); exact HO_1.out)) hg hat); have n2_:=Aside0.mk (hb); have n3_:=Aside0.mk (ho); clear HO_0; clear HO_1; clear HB; have HO_0:=n0_; have HO_1:=n1_; have HB:=n2_; have HO188:=n3_; clear n0_ n1_ n2_ n3_; clear ho hb hg hat) | ((with_reducible refine gate_builtin (b:=.append) (xs:=#[.const (.slice none 0 0),.tmp 62]) rfl ?_); (try (refine gate_guard (by rfl) ?_; dsimp only)); at_builtin; refine Kd.R_append_rows k39 (w0:=w) w.heap.size rfl (.const (.slice none 0 0)) (.tmp 62) 22 39 (.agg #[(.int .i64 0),(.int .i64 0),(.int .i64 0),(.int .i64 0),(.int .i64 0),(.int .i64 0),(.int .i64 0),(.int .i64 0),(.int .i64 0),(.int .i64 0),(.int .i64 0),(.int .i64 0),(.int .i64 0),(.int .i64 0),(.int .i64 0)]) 120 rfl Try.underlying22 info39 rfl (by decide) (by omega) (.slice none 0 0) ([]:List (S39)) x1_2 _ _ _ (fun k_ => (w.heap.size ≤ k_) ∧ some k_ ≠ (v187:Value).ownBlock) (fun _ => False) rfl rfl ?aO ?aR (fun _ _ h => h) (fun _ h => h.elim) ?aF ?aB ?aS ?aL ?_; (case aR => repeat (first | exact (Kd.V_reads' HO_1.out).2.2 | (with_reducible refine Kd.C_alloc ?_ _) | (with_reducible refine Kd.C_drewN ?_ _) | (with_reducible refine Kd.C_drew ?_))); (case aB => exact (by repeat (first | (with_reducible first | exact HB.out | apply below_alloc | apply pw_below_drewN | apply below_drew1) | exact HB.out))); (case aF => exact (fun k_ hk => ⟨(Nat.le_trans (below_size (by repeat (first | (with_reducible first | exact HB.out | apply below_alloc | apply pw_below_drewN | apply below_drew1) | exact HB.out))) hk),Kd.fresh' (Kd.R_lt (by (with_reducible repeat (first | apply Kd.R_alloc | apply Kd.R_drewN | apply Kd.R_drew)); exact HO188.out)) k_ hk⟩)); (case aO => exact ((Kd.R_nil _ _ _ _ (fun k_ => (w.heap.size ≤ k_) ∧ some k_ ≠ (v187:Value).ownBlock)))); (case aS => exact (below_size (by repeat (first | (with_reducible first | exact HB.out | apply below_alloc | apply pw_below_drewN | apply below_drew1) | exact HB.out)))); (case aL => have:=LMc58.out; omega); intro v190 w63 ho hb hg hat; rw [← Ny189.out] at ho; have n0_:=Aside0.mk (Kd.V_afterv (Kd.V_apart_nil (by (with_reducible repeat (first | apply Kd.V_alloc | apply Kd.V_drewN | apply Kd.V_drew)); exact HO_0.out)) hg hat); have n1_:=Aside0.mk (Kd.V_afterv (Kd.V_apart_nil (by (with_reducible repeat (first | apply Kd.V_alloc | apply Kd.V_drewN | apply Kd.V_drew)); exact HO_1.out)) hg hat); have n2_:=Aside0.mk (Kd.R_after (Kd.R_apart_nil (by (with_reducible repeat (first | apply Kd.R_alloc | apply Kd.R_drewN | apply Kd.R_drew)); exact HO188.out)) hg hat); have n3_:=Aside0.mk (hb); have n4_:=Aside0.mk (ho); clear HO_0; clear HO_1; clear HO188; clear HB; have HO_0:=n0_; have HO_1:=n1_; have HO188:=n2_; have HB:=n3_; have HO191:=n4_; clear n0_ n1_ n2_ n3_ n4_; clear ho hb hg hat))
          go_ret2
          exact ⟨_,_,by first | rfl | (simp [errW_none,errW_some] <;> rfl) | (simp [*,errW_none,errW_some] <;> rfl),by (with_reducible repeat (first | apply Kd.R_alloc | apply Kd.R_drewN | apply Kd.R_drew)); exact HO188.out,by (with_reducible repeat (first | apply Kd.R_alloc | apply Kd.R_drewN | apply Kd.R_drew)); exact HO191.out,by repeat (first | (with_reducible first | exact HB.out | apply below_alloc | apply pw_below_drewN | apply below_drew1) | exact HB.out)⟩
         ·rw [if_neg c58] at H
          exact absurd H (by simp)
        ·rw [if_neg c57] at H
         exact absurd H (by simp)
      ·rw [if_neg c28] at H
       have c28b0:decide (0 < (x0_2.length:Int)) = false:=decide_eq_false c28
       have c28b1:decide (0 < x0_2.length) = false:=decide_eq_false (by omega)
       clear c28
       by_cases c64:([]:List (S39)).length + x0_2.length < 1172812402961
       ·rw [if_pos c64] at H
        have LMc64:=Aside0.mk c64
        clear c64
        obtain ⟨y192,hy192⟩:∃ y_:List (S39),y_ = (([]:List (S39)) ++ x0_2):=⟨_,rfl⟩
        replace H:(if ([]:List (S39)).length + x1_2.length < 1172812402961 then (some (y192,(([]:List (S39)) ++ x1_2))) else (none)) = some (r1,r2):=by first | (rw [hy192]; with_reducible exact H) | (have H2_:=(Option.bind_some _ _).symm.trans H; rw [hy192]; with_reducible exact H2_) | (have H2_:=(Option.bind_some _ _).symm.trans H; with_reducible exact H2_) | with_reducible exact H | (rw [hy192]; exact H) | exact H
        have Ny192:=Aside0.mk hy192
        clear hy192
        by_cases c65:([]:List (S39)).length + x1_2.length < 1172812402961
        ·rw [if_pos c65] at H
         have LMc65:=Aside0.mk c65
         clear c65
         obtain ⟨y195,hy195⟩:∃ y_:List (S39),y_ = (([]:List (S39)) ++ x1_2):=⟨_,rfl⟩
         replace H:(some (y192,y195)) = some (r1,r2):=by first | (rw [hy195]; with_reducible exact H) | (have H2_:=(Option.bind_some _ _).symm.trans H; rw [hy195]; with_reducible exact H2_) | (have H2_:=(Option.bind_some _ _).symm.trans H; with_reducible exact H2_) | with_reducible exact H | (rw [hy195]; exact H) | exact H
         have Ny195:=Aside0.mk hy195
         clear hy195
         simp only [Option.some.injEq,Prod.mk.injEq] at H
         obtain ⟨rfl,rfl⟩:=H
         try go_wp2
         have n0_:=Aside0.mk (Kd.V_drew HO_0.out)
         have n1_:=Aside0.mk (Kd.V_drew HO_1.out)
         have n2_:=Aside0.mk (below_drew1 HB.out)
         clear HO_0
         clear HO_1
         clear HB
         have HO_0:=n0_
         have HO_1:=n1_
         have HB:=n2_
         clear n0_ n1_ n2_
         obtain ⟨Ao67,co67,eo67⟩:=Kd.V_slice HO_0.out
         (first | subst eo67 | (injection eo67 with f1_ f2_ f3_; have f4_:=f1_.symm; have f5_:=f3_.symm; clear f1_ f2_ f3_; subst f4_; subst f5_))
         refine start_ (n:=23) (S:=fun w' => True) (ds:=[]) #[false,false,false,false,false,false,false,false,false,false,false,false,false,false,false,false,false,false,false,false,false,false,false] (by kernel_rfl) rfl rfl trivial (fun hHeld => ?_); refine with_tabW harm_Parts.tab3 harm_Parts.bits3 (fun HT_ HW_ => ?_)
         generalize wr.drew = w66 at HO_0 HO_1 HB hHeld ⊢
         refine pure_ (i:=0) (N:=some 27) (v:=?_) (a':=?_) #[true,false,false,false,false,false,false,false,false,false,false,false,false,false,false,false,false,false,false,false,false,false,false] rfl rfl (any_of HT_.out (by kernel_rfl)) (fun _ _ _ h => h) (Or.inl ⟨by rfl,?_⟩) ?_ ?_
         rotate_left
         ·intro w'
          go_simp
          with_reducible rfl
         rotate_left
         ·simp only [Act.put,List.setIfInBounds_toArray,List.set_cons_zero,List.set_cons_succ,i64_w,i32_w]
          rfl
         refine pure_ (i:=1) (N:=some 28) (v:=?_) (a':=?_) #[true,true,false,false,false,false,false,false,false,false,false,false,false,false,false,false,false,false,false,false,false,false,false] rfl rfl (any_of HT_.out (by kernel_rfl)) (fun _ _ _ h => h) (Or.inl ⟨by rfl,?_⟩) ?_ ?_
         rotate_left
         ·intro w'
          go_simp
          with_reducible rfl
         rotate_left
         ·simp only [Act.put,List.setIfInBounds_toArray,List.set_cons_zero,List.set_cons_succ,i64_w,i32_w]
          rfl
         refine pure_ (i:=2) (N:=some 29) (v:=?_) (a':=?_) #[true,true,true,false,false,false,false,false,false,false,false,false,false,false,false,false,false,false,false,false,false,false,false] rfl rfl (any_of HT_.out (by kernel_rfl)) (fun _ _ _ h => h) (Or.inl ⟨by rfl,?_⟩) ?_ ?_
         rotate_left
         ·intro w'
          go_simp
          with_reducible rfl
         rotate_left
         ·simp only [Act.put,List.setIfInBounds_toArray,List.set_cons_zero,List.set_cons_succ,i64_w,i32_w]
          rfl
         refine pure_ (i:=3) (N:=some 30) (v:=?_) (a':=?_) #[true,true,true,true,false,false,false,false,false,false,false,false,false,false,false,false,false,false,false,false,false,false,false] rfl rfl (any_of HT_.out (by kernel_rfl)) (fun _ _ _ h => h) (Or.inl ⟨by rfl,?_⟩) ?_ ?_
         rotate_left
         ·intro w'
          go_simp
          with_reducible rfl
         rotate_left
         ·simp only [Act.put,List.setIfInBounds_toArray,List.set_cons_zero,List.set_cons_succ,i64_w,i32_w]
          rfl
         refine pure_ (i:=4) (N:=some 31) (v:=undef) (a':=?_) #[true,true,true,true,true,false,false,false,false,false,false,false,false,false,false,false,false,false,false,false,false,false,false] rfl rfl (any_of HT_.out (by kernel_rfl)) (fun _ _ _ h => h) (Or.inr ⟨by rfl,rfl⟩) ?_ ?_
         rotate_left
         ·simp only [Act.put,List.setIfInBounds_toArray,List.set_cons_zero,List.set_cons_succ,i64_w,i32_w]
          rfl
         refine pure_ (i:=5) (N:=some 32) (v:=undef) (a':=?_) #[true,true,true,true,true,true,false,false,false,false,false,false,false,false,false,false,false,false,false,false,false,false,false] rfl rfl (any_of HT_.out (by kernel_rfl)) (fun _ _ _ h => h) (Or.inr ⟨by rfl,rfl⟩) ?_ ?_
         rotate_left
         ·simp only [Act.put,List.setIfInBounds_toArray,List.set_cons_zero,List.set_cons_succ,i64_w,i32_w]
          rfl
         refine pure_ (i:=6) (N:=some 33) (v:=undef) (a':=?_) #[true,true,true,true,true,true,true,false,false,false,false,false,false,false,false,false,false,false,false,false,false,false,false] rfl rfl (any_of HT_.out (by kernel_rfl)) (fun _ _ _ h => h) (Or.inr ⟨by rfl,rfl⟩) ?_ ?_
         rotate_left
         ·simp only [Act.put,List.setIfInBounds_toArray,List.set_cons_zero,List.set_cons_succ,i64_w,i32_w]
          rfl
         refine pure_ (i:=7) (N:=some 34) (v:=?_) (a':=?_) #[true,true,true,true,true,true,true,true,false,false,false,false,false,false,false,false,false,false,false,false,false,false,false] rfl rfl (any_of HT_.out (by kernel_rfl)) (fun _ _ _ h => h) (Or.inl ⟨by rfl,?_⟩) ?_ ?_
         rotate_left
         ·intro w'
          go_simp
          with_reducible rfl
         rotate_left
         ·simp only [Act.put,List.setIfInBounds_toArray,List.set_cons_zero,List.set_cons_succ,i64_w,i32_w]
          rfl
         refine pure_ (i:=8) (N:=some 35) (v:=?_) (a':=?_) #[true,true,true,true,true,true,true,true,true,false,false,false,false,false,false,false,false,false,false,false,false,false,false] rfl rfl (any_of HT_.out (by kernel_rfl)) (fun _ _ _ h => h) (Or.inl ⟨by rfl,?_⟩) ?_ ?_
         rotate_left
         ·intro w'
          go_simp
          with_reducible rfl
         rotate_left
         ·simp only [Act.put,List.setIfInBounds_toArray,List.set_cons_zero,List.set_cons_succ,i64_w,i32_w]
          rfl
         refine pure_ (i:=9) (N:=some 36) (v:=undef) (a':=?_) #[true,true,true,true,true,true,true,true,true,true,false,false,false,false,false,false,false,false,false,false,false,false,false] rfl rfl (any_of HT_.out (by kernel_rfl)) (fun _ _ _ h => h) (Or.inr ⟨by rfl,rfl⟩) ?_ ?_
         rotate_left
         ·simp only [Act.put,List.setIfInBounds_toArray,List.set_cons_zero,List.set_cons_succ,i64_w,i32_w]
          rfl
         refine pure_ (i:=10) (N:=some 37) (v:=undef) (a':=?_) #[true,true,true,true,true,true,true,true,true,true,true,false,false,false,false,false,false,false,false,false,false,false,false] rfl rfl (any_of HT_.out (by kernel_rfl)) (fun _ _ _ h => h) (Or.inr ⟨by rfl,rfl⟩) ?_ ?_
         rotate_left
         ·simp only [Act.put,List.setIfInBounds_toArray,List.set_cons_zero,List.set_cons_succ,i64_w,i32_w]
          rfl
         refine pure_ (i:=11) (N:=some 38) (v:=undef) (a':=?_) #[true,true,true,true,true,true,true,true,true,true,true,true,false,false,false,false,false,false,false,false,false,false,false] rfl rfl (any_of HT_.out (by kernel_rfl)) (fun _ _ _ h => h) (Or.inr ⟨by rfl,rfl⟩) ?_ ?_
         rotate_left
         ·simp only [Act.put,List.setIfInBounds_toArray,List.set_cons_zero,List.set_cons_succ,i64_w,i32_w]
          rfl
         refine pure_ (i:=12) (N:=some 39) (v:=undef) (a':=?_) #[true,true,true,true,true,true,true,true,true,true,true,true,true,false,false,false,false,false,false,false,false,false,false] rfl rfl (any_of HT_.out (by kernel_rfl)) (fun _ _ _ h => h) (Or.inr ⟨by rfl,rfl⟩) ?_ ?_
         rotate_left
         ·simp only [Act.put,List.setIfInBounds_toArray,List.set_cons_zero,List.set_cons_succ,i64_w,i32_w]
          rfl
         refine pure_ (i:=13) (N:=some 40) (v:=undef) (a':=?_) #[true,true,true,true,true,true,true,true,true,true,true,true,true,true,false,false,false,false,false,false,false,false,false] rfl rfl (any_of HT_.out (by kernel_rfl)) (fun _ _ _ h => h) (Or.inr ⟨by rfl,rfl⟩) ?_ ?_
         rotate_left
         ·simp only [Act.put,List.setIfInBounds_toArray,List.set_cons_zero,List.set_cons_succ,i64_w,i32_w]
          rfl
         refine pure_ (i:=14) (N:=some 41) (v:=undef) (a':=?_) #[true,true,true,true,true,true,true,true,true,true,true,true,true,true,true,false,false,false,false,false,false,false,false] rfl rfl (any_of HT_.out (by kernel_rfl)) (fun _ _ _ h => h) (Or.inr ⟨by rfl,rfl⟩) ?_ ?_
         rotate_left
         ·simp only [Act.put,List.setIfInBounds_toArray,List.set_cons_zero,List.set_cons_succ,i64_w,i32_w]
          rfl
         refine pure_ (i:=15) (N:=some 42) (v:=undef) (a':=?_) #[true,true,true,true,true,true,true,true,true,true,true,true,true,true,true,true,false,false,false,false,false,false,false] rfl rfl (any_of HT_.out (by kernel_rfl)) (fun _ _ _ h => h) (Or.inr ⟨by rfl,rfl⟩) ?_ ?_
         rotate_left
         ·simp only [Act.put,List.setIfInBounds_toArray,List.set_cons_zero,List.set_cons_succ,i64_w,i32_w]
          rfl
         refine pure_ (i:=16) (N:=some 43) (v:=undef) (a':=?_) #[true,true,true,true,true,true,true,true,true,true,true,true,true,true,true,true,true,false,false,false,false,false,false] rfl rfl (any_of HT_.out (by kernel_rfl)) (fun _ _ _ h => h) (Or.inr ⟨by rfl,rfl⟩) ?_ ?_
         rotate_left
         ·simp only [Act.put,List.setIfInBounds_toArray,List.set_cons_zero,List.set_cons_succ,i64_w,i32_w]
          rfl
         refine pure_ (i:=17) (N:=some 44) (v:=undef) (a':=?_) #[true,true,true,true,true,true,true,true,true,true,true,true,true,true,true,true,true,true,false,false,false,false,false] rfl rfl (any_of HT_.out (by kernel_rfl)) (fun _ _ _ h => h) (Or.inr ⟨by rfl,rfl⟩) ?_ ?_
         rotate_left
         ·simp only [Act.put,List.setIfInBounds_toArray,List.set_cons_zero,List.set_cons_succ,i64_w,i32_w]
          rfl
         refine pure_ (i:=18) (N:=some 45) (v:=undef) (a':=?_) #[true,true,true,true,true,true,true,true,true,true,true,true,true,true,true,true,true,true,true,false,false,false,false] rfl rfl (any_of HT_.out (by kernel_rfl)) (fun _ _ _ h => h) (Or.inr ⟨by rfl,rfl⟩) ?_ ?_
         rotate_left
         ·simp only [Act.put,List.setIfInBounds_toArray,List.set_cons_zero,List.set_cons_succ,i64_w,i32_w]
          rfl
         refine pure_ (i:=19) (N:=some 46) (v:=undef) (a':=?_) #[true,true,true,true,true,true,true,true,true,true,true,true,true,true,true,true,true,true,true,true,false,false,false] rfl rfl (any_of HT_.out (by kernel_rfl)) (fun _ _ _ h => h) (Or.inr ⟨by rfl,rfl⟩) ?_ ?_
         rotate_left
         ·simp only [Act.put,List.setIfInBounds_toArray,List.set_cons_zero,List.set_cons_succ,i64_w,i32_w]
          rfl
         refine pure_ (i:=20) (N:=some 47) (v:=undef) (a':=?_) #[true,true,true,true,true,true,true,true,true,true,true,true,true,true,true,true,true,true,true,true,true,false,false] rfl rfl (any_of HT_.out (by kernel_rfl)) (fun _ _ _ h => h) (Or.inr ⟨by rfl,rfl⟩) ?_ ?_
         rotate_left
         ·simp only [Act.put,List.setIfInBounds_toArray,List.set_cons_zero,List.set_cons_succ,i64_w,i32_w]
          rfl
         refine pure_ (i:=21) (N:=some 48) (v:=undef) (a':=?_) #[true,true,true,true,true,true,true,true,true,true,true,true,true,true,true,true,true,true,true,true,true,true,false] rfl rfl (any_of HT_.out (by kernel_rfl)) (fun _ _ _ h => h) (Or.inr ⟨by rfl,rfl⟩) ?_ ?_
         rotate_left
         ·simp only [Act.put,List.setIfInBounds_toArray,List.set_cons_zero,List.set_cons_succ,i64_w,i32_w]
          rfl
         refine pure_ (i:=22) (N:=some 49) (v:=?_) (a':=?_) #[true,true,true,true,true,true,true,true,true,true,true,true,true,true,true,true,true,true,true,true,true,true,true] rfl rfl (any_of HT_.out (by kernel_rfl)) (fun _ _ _ h => h) (Or.inl ⟨by rfl,?_⟩) ?_ ?_
         rotate_left
         ·intro w'
          go_simp
          with_reducible rfl
         rotate_left
         ·simp only [Act.put,List.setIfInBounds_toArray,List.set_cons_zero,List.set_cons_succ,i64_w,i32_w]
          rfl
         refine done_ (done_of HT_.out (by kernel_rfl)) ?_
         try go_wp2_with (first | ((with_reducible refine gate_builtin (b:=.append) (xs:=#[.const (.slice none 0 0),.tmp 60]) rfl ?_); (try (refine gate_guard (by rfl) ?_; dsimp only)); at_builtin; refine Kd.R_append_rows k39 (w0:=w) w.heap.size rfl (.const (.slice none 0 0)) (.tmp 60) 22 39 (.agg #[(.int .i64 0),(.int .i64 0),(.int .i64 0),(.int .i64 0),(.int .i64 0),(.int .i64 0),(.int .i64 0),(.int .i64 0),(.int .i64 0),(.int .i64 0),(.int .i64 0),(.int .i64 0),(.int .i64 0),(.int .i64 0),(.int .i64 0)]) 120 rfl Try.underlying22 info39 rfl (by decide) (by omega) (.slice none 0 0) ([]:List (S39)) x0_2 _ _ _ (fun k_ => (w.heap.size ≤ k_)) (fun _ => False) rfl rfl ?aO ?aR (fun _ _ h => h) (fun _ h => h.elim) ?aF ?aB ?aS ?aL ?_; (case aR => repeat (first | exact (Kd.V_reads' HO_0.out).2.2 | (with_reducible refine Kd.C_alloc ?_ _) | (with_reducible refine Kd.C_drewN ?_ _) | (with_reducible refine Kd.C_drew ?_))); (case aB => exact (by repeat (first | (with_reducible first | exact HB.out | apply below_alloc | apply pw_below_drewN | apply below_drew1) | exact HB.out))); (case aF => exact (fun k_ hk => (Nat.le_trans (below_size (by repeat (first | (with_reducible first | exact HB.out | apply below_alloc | apply pw_below_drewN | apply below_drew1) | exact HB.out))) hk))); (case aO => exact ((Kd.R_nil _ _ _ _ (fun k_ => (w.heap.size ≤ k_))))); (case aS => exact (below_size (by repeat (first | (with_reducible first | exact HB.out | apply below_alloc | apply pw_below_drewN | apply below_drew1) | exact HB.out)))); (case aL => have:=LMc64.out; omega); intro v193 w68 ho hb hg hat; rw [← Ny192.out] at ho; have n0_:=Aside0.mk (Kd.V_afterv (Kd.V_apart_nil (by (with_reducible repeat (first | apply Kd.V_alloc | apply Kd.V_drewN | apply Kd.V_drew)); exact HO_0.out)) hg hat); have n1_:=Aside0.mk (Kd.V_afterv (Kd.V_apart_nil (by (with_reducible repeat (first | apply Kd.V_alloc | apply Kd.V_drewN | apply Kd.V_drew)); exact HO_1.out)) hg hat); have n2_:=Aside0.mk (hb); have n3_:=Aside0.mk (ho); clear HO_0; clear HO_1; clear HB; have HO_0:=n0_; have HO_1:=n1_; have HB:=n2_; have HO194:=n3_; clear n0_ n1_ n2_ n3_; clear ho hb hg hat; obtain ⟨Ao70,co70,eo70⟩:=Kd.V_slice HO_1.out; subst eo70) | ((with_reducible refine gate_builtin (b:=.append) (xs:=#[.const (.slice none 0 0),.tmp 62]) rfl ?_); (try (refine gate_guard (by rfl) ?_; dsimp only)); at_builtin; refine Kd.R_append_rows k39 (w0:=w) w.heap.size rfl (.const (.slice none 0 0)) (.tmp 62) 22 39 (.agg #[(.int .i64 0),(.int .i64 0),(.int .i64 0),(.int .i64 0),(.int .i64 0),(.int .i64 0),(.int .i64 0),(.int .i64 0),(.int .i64 0),(.int .i64 0),(.int .i64 0),(.int .i64 0),(.int .i64 0),(.int .i64 0),(.int .i64 0)]) 120 rfl Try.underlying22 info39 rfl (by decide) (by omega) (.slice none 0 0) ([]:List (S39)) x1_2 _ _ _ (fun k_ => (w.heap.size ≤ k_) ∧ some k_ ≠ (v193:Value).ownBlock) (fun _ => False) rfl rfl ?aO ?aR (fun _ _ h => h) (fun _ h => h.elim) ?aF ?aB ?aS ?aL ?_; (case aR => repeat (first | exact (Kd.V_reads' HO_1.out).2.2 | (with_reducible refine Kd.C_alloc ?_ _) | (with_reducible refine Kd.C_drewN ?_ _) | (with_reducible refine Kd.C_drew ?_))); (case aB => exact (by repeat (first | (with_reducible first | exact HB.out | apply below_alloc | apply pw_below_drewN | apply below_drew1) | exact HB.out))); (case aF => exact (fun k_ hk => ⟨(Nat.le_trans (below_size (by repeat (first | (with_reducible first | exact HB.out | apply below_alloc | apply pw_below_drewN | apply below_drew1) | exact HB.out))) hk),Kd.fresh' (Kd.R_lt (by (with_reducible repeat (first | apply Kd.R_alloc | apply Kd.R_drewN | apply Kd.R_drew)); exact HO194.out)) k_ hk⟩)); (case aO => exact ((Kd.R_nil _ _ _ _ (fun k_ => (w.heap.size ≤ k_) ∧ some k_ ≠ (v193:Value).ownBlock)))); (case aS => exact (below_size (by repeat (first | (with_reducible first | exact HB.out | apply below_alloc | apply pw_below_drewN | apply below_drew1) | exact HB.out)))); (case aL => have:=LMc65.out; omega); intro v196 w69 ho hb hg hat; rw [← Ny195.out] at ho; have n0_:=Aside0.mk (Kd.V_afterv (Kd.V_apart_nil (by (with_reducible repeat (first | apply Kd.V_alloc | apply Kd.V_drewN | apply Kd.V_drew)); exact HO_0.out)) hg hat); have n1_:=Aside0.mk (Kd.V_afterv (Kd.V_apart_nil (by (with_reducible repeat (first | apply Kd.V_alloc | apply Kd.V_drewN | apply Kd.V_drew)); exact HO_1.out)) hg hat); have n2_:=Aside0.mk (Kd.R_after (Kd.R_apart_nil (by (with_reducible repeat (first | apply Kd.R_alloc | apply Kd.R_drewN | apply Kd.R_drew)); exact HO194.out)) hg hat); have n3_:=Aside0.mk (hb); have n4_:=Aside0.mk (ho); clear HO_0; clear HO_1; clear HO194; clear HB; have HO_0:=n0_; have HO_1:=n1_; have HO194:=n2_; have HB:=n3_; have HO197:=n4_; clear n0_ n1_ n2_ n3_ n4_; clear ho hb hg hat))
         go_ret2
         exact ⟨_,_,by first | rfl | (simp [errW_none,errW_some] <;> rfl) | (simp [*,errW_none,errW_some] <;> rfl),by (with_reducible repeat (first | apply Kd.R_alloc | apply Kd.R_drewN | apply Kd.R_drew)); exact HO194.out,by (with_reducible repeat (first | apply Kd.R_alloc | apply Kd.R_drewN | apply Kd.R_drew)); exact HO197.out,by repeat (first | (with_reducible first | exact HB.out | apply below_alloc | apply pw_below_drewN | apply below_drew1) | exact HB.out)⟩
        ·rw [if_neg c65] at H
         exact absurd H (by simp)
       ·rw [if_neg c64] at H
        exact absurd H (by simp)
end Go.Proofs.Ytppklhfiajjhmaa.PPT
end
