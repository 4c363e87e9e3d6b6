/- What is proved: contracts of functions that the law HarmTells reaches, written by program. Conditions: none but those in each statement. -/
import Derived.Test.YtppklhfiajjhmaaZHarmTellsPHarmTellsx0
import Derived.Test.YtppklhfiajjhmaaZHarmTellsPHarmTellsx2
import Derived.Test.YtppklhfiajjhmaaZHarmTellsMHarmTells4
import Derived.Test.YtppklhfiajjhmaaZHarmTellsMHarmTells6
import Derived.Test.YtppklhfiajjhmaaZHarmTellsMHarmTells7
import Derived.Test.YtppklhfiajjhmaaZHarmTellsPHarmTellsx8
import Derived.Test.YtppklhfiajjhmaaZHarmTellsPHarmTellsx9
import Derived.Test.YtppklhfiajjhmaaZHarmTellsPHarmTellsx11
namespace Go.Proofs.Ytppklhfiajjhmaa.PHarmTells
open Go.RowKit Go.Proofs.YtppklhfiajjhmaaW.PrintWords Go.Proofs.YtppklhfiajjhmaaW.PrintLast Go.Proofs.YtppklhfiajjhmaaW.PrintMore
attribute [local go_sem] max2_int min2_int max_two min_two max_three min_three max_four min_four   -- for this text's walks alone
set_option linter.unusedVariables false
set_option linter.unusedSimpArgs false

attribute [local go_sem high] eqA39
/-! ### decoupageref29_Of: function 19 -/
mutual
def decoupageref29_Of.l0 : Nat → List (S39) → List (S39) → Int → Int → List (S37) → Int → Option ((List (S37)))
 | 0, _, _, _, _, _, _ => none
 | k + 1, x0, x1, x5, x6, x7, x8 => if x8 < (wrap64 ((x0.length : Int) - x6)) then (if 0 ≤ x8 then (if x8 < (x0.length : Int) then ((decoupageref27_Seen.f k ((rd_T39 x0 x8).f0) ((rd_T39 x0 x8).f1) ((rd_T39 x0 x8).f2.f0) ((rd_T39 x0 x8).f2.f1) ((rd_T39 x0 x8).f2.f2) ((rd_T39 x0 x8).f2.f3) ((rd_T39 x0 x8).f3.f0) ((rd_T39 x0 x8).f3.f1) ((rd_T39 x0 x8).f3.f2) ((rd_T39 x0 x8).f3.f3) ((rd_T39 x0 x8).f4.f0) ((rd_T39 x0 x8).f4.f1) ((rd_T39 x0 x8).f4.f2) ((rd_T39 x0 x8).f4.f3) ((rd_T39 x0 x8).f5)).bind fun bt313 => (if x7.length < 4398046511104 then (decoupageref29_Of.l0 k x0 x1 x5 x6 (x7 ++ [(⟨bt313.1, bt313.2.1, bt313.2.2.1, bt313.2.2.2⟩ : S37)]) (wrap64 (x8 + 1))) else (none))) else (none)) else (none)) else (decoupageref29_Of.l1 k x1 x6 x7 x5)
def decoupageref29_Of.l1 : Nat → List (S39) → Int → List (S37) → Int → Option ((List (S37)))
 | 0, _, _, _, _ => none
 | k + 1, x1, x6, x7, x9 => if x9 < (wrap64 ((x1.length : Int) - x6)) then (if 0 ≤ x9 then (if x9 < (x1.length : Int) then ((decoupageref27_Seen.f k ((rd_T39 x1 x9).f0) ((rd_T39 x1 x9).f1) ((rd_T39 x1 x9).f2.f0) ((rd_T39 x1 x9).f2.f1) ((rd_T39 x1 x9).f2.f2) ((rd_T39 x1 x9).f2.f3) ((rd_T39 x1 x9).f3.f0) ((rd_T39 x1 x9).f3.f1) ((rd_T39 x1 x9).f3.f2) ((rd_T39 x1 x9).f3.f3) ((rd_T39 x1 x9).f4.f0) ((rd_T39 x1 x9).f4.f1) ((rd_T39 x1 x9).f4.f2) ((rd_T39 x1 x9).f4.f3) ((rd_T39 x1 x9).f5)).bind fun bt321 => (if x7.length < 4398046511104 then (decoupageref29_Of.l1 k x1 x6 (x7 ++ [(⟨bt321.1, bt321.2.1, bt321.2.2.1, bt321.2.2.2⟩ : S37)]) (wrap64 (x9 + 1))) else (none))) else (none)) else (none)) else ((decoupageref03_Join.f k x7).bind fun t328 => (some t328))
end
def decoupageref29_Of.f (k : Nat) (l0 : List (S39)) (l1 : List (S39)) : Option ((List (S37))) := (decoupageref29_Ends.f k l0 l1).bind fun bt310 => (decoupageref29_Of.l0 k l0 l1 bt310.1 bt310.2 ([] : List (S37)) bt310.1)
theorem decoupageref29_Of.mono_l : ∀ k, (∀ y0 y1 y2 y3 y4 y5, LeO (decoupageref29_Of.l0 k y0 y1 y2 y3 y4 y5) (decoupageref29_Of.l0 (k + 1) y0 y1 y2 y3 y4 y5)) ∧ (∀ y0 y1 y2 y3, LeO (decoupageref29_Of.l1 k y0 y1 y2 y3) (decoupageref29_Of.l1 (k + 1) y0 y1 y2 y3))
 | 0 => ⟨fun _ _ _ _ _ _ r h => by simp [decoupageref29_Of.l0] at h, fun _ _ _ _ r h => by simp [decoupageref29_Of.l1] at h⟩
 | k + 1 => by
  obtain ⟨ih0, ih1⟩ := decoupageref29_Of.mono_l k
  refine ⟨?_, ?_⟩
  ·intro y0 y1 y2 y3 y4 y5
   unfold decoupageref29_Of.l0
   repeat' first
   | (with_reducible exact ih0 _ _ _ _ _ _)
   | (with_reducible exact ih1 _ _ _ _)
   | (with_reducible exact decoupageref03_Join.mono _ _)
   | (with_reducible exact decoupageref27_Seen.mono _ _ _ _ _ _ _ _ _ _ _ _ _ _ _ _)
   | (with_reducible exact decoupageref29_Ends.mono _ _ _)
   | (with_reducible exact LeO.refl _)
   | (with_reducible exact LeO.none _)
   | (with_reducible refine LeO.ite ?_ ?_)
   | (with_reducible refine LeO.bind ?_ (fun _ => ?_))
   | exact ih0 _ _ _ _ _ _
   | exact ih1 _ _ _ _
   | exact decoupageref03_Join.mono _ _
   | exact decoupageref27_Seen.mono _ _ _ _ _ _ _ _ _ _ _ _ _ _ _ _
   | exact decoupageref29_Ends.mono _ _ _
   | exact LeO.none _
   | refine LeO.ite ?_ ?_
   | refine LeO.bind ?_ (fun _ => ?_)
  ·intro y0 y1 y2 y3
   unfold decoupageref29_Of.l1
   repeat' first
   | (with_reducible exact ih0 _ _ _ _ _ _)
   | (with_reducible exact ih1 _ _ _ _)
   | (with_reducible exact decoupageref03_Join.mono _ _)
   | (with_reducible exact decoupageref27_Seen.mono _ _ _ _ _ _ _ _ _ _ _ _ _ _ _ _)
   | (with_reducible exact decoupageref29_Ends.mono _ _ _)
   | (with_reducible exact LeO.refl _)
   | (with_reducible exact LeO.none _)
   | (with_reducible refine LeO.ite ?_ ?_)
   | (with_reducible refine LeO.bind ?_ (fun _ => ?_))
   | exact ih0 _ _ _ _ _ _
   | exact ih1 _ _ _ _
   | exact decoupageref03_Join.mono _ _
   | exact decoupageref27_Seen.mono _ _ _ _ _ _ _ _ _ _ _ _ _ _ _ _
   | exact decoupageref29_Ends.mono _ _ _
   | exact LeO.none _
   | refine LeO.ite ?_ ?_
   | refine LeO.bind ?_ (fun _ => ?_)
theorem decoupageref29_Of.mono : ∀ a0 a1 k, LeO (decoupageref29_Of.f k a0 a1) (decoupageref29_Of.f (k + 1) a0 a1) := by
 intro a0 a1 k
 obtain ⟨ih0, ih1⟩ := decoupageref29_Of.mono_l k
 unfold decoupageref29_Of.f
 repeat' first
   | (with_reducible exact ih0 _ _ _ _ _ _)
   | (with_reducible exact ih1 _ _ _ _)
   | (with_reducible exact decoupageref03_Join.mono _ _)
   | (with_reducible exact decoupageref27_Seen.mono _ _ _ _ _ _ _ _ _ _ _ _ _ _ _ _)
   | (with_reducible exact decoupageref29_Ends.mono _ _ _)
   | (with_reducible exact LeO.refl _)
   | (with_reducible exact LeO.none _)
   | (with_reducible refine LeO.ite ?_ ?_)
   | (with_reducible refine LeO.bind ?_ (fun _ => ?_))
   | exact ih0 _ _ _ _ _ _
   | exact ih1 _ _ _ _
   | exact decoupageref03_Join.mono _ _
   | exact decoupageref27_Seen.mono _ _ _ _ _ _ _ _ _ _ _ _ _ _ _ _
   | exact decoupageref29_Ends.mono _ _ _
   | exact LeO.none _
   | refine LeO.ite ?_ ?_
   | refine LeO.bind ?_ (fun _ => ?_)
set_option maxHeartbeats 8000000 in
set_option maxRecDepth 100000 in
theorem decoupageref29_Of.calls (k : Nat) (A0 : Option Addr) (c0 : Nat) (l0 : List (S39)) (A1 : Option Addr) (c1 : Nat) (l1 : List (S39)) (r : List (S37)) (w : World) (hr0 : Kd.C k39 w A0 l0.length l0) (hc0 : l0.length ≤ c0) (hr1 : Kd.C k39 w A1 l1.length l1) (hc1 : l1.length ≤ c1) (h : decoupageref29_Of.f k l0 l1 = some r) :
  Calls Try.prog 19 #[.slice A0 l0.length c0, .slice A1 l1.length c1] w fun e w' => ∃ v0_ : Value, e = .returned (v0_) ∧ Kd.R k37 37 w' w.heap.size (fun _ => True) v0_ r ∧ Below w.heap.size w w' := by
 have hu39 := Try.underlying39
 have HR0 := Aside0.mk hr0
 have HC0 := Aside0.mk hc0
 clear hr0 hc0
 have HR1 := Aside0.mk hr1
 have HC1 := Aside0.mk hc1
 clear hr1 hc1
 have HB := Aside0.mk (Below.refl w.heap.size w)
 have H : ((decoupageref29_Ends.f k l0 l1).bind fun bt310 => (decoupageref29_Of.l0 k l0 l1 bt310.1 bt310.2 ([] : List (S37)) bt310.1)) = some r := h
 clear h
 replace H := Option.bind_eq_some_iff.mp H
 obtain ⟨⟨t310, t311⟩, A30, H⟩ := H
 replace H : (decoupageref29_Of.l0 k l0 l1 t310 t311 ([] : List (S37)) t310) = some r := H
 have A3 := Aside0.mk A30
 clear A30
 have H' := Aside0.mk H
 clear H
 go_enter Try.func19, Try.ntmps19
 go_wp2_with (first | ((with_reducible refine gate_callee (f := 15) rfl ?_); refine goesL_ (some 13) rfl rfl Try.func15 (by kernel_rfl) rfl #[.slice A0 l0.length c0, .slice A1 l1.length c1] rfl (by (try simp only [List.map_toArray, List.map_cons, List.map_nil]); first | done | rfl | (simp only [List.length_drop, List.length_take]; rfl)) ?_; (with_reducible refine (decoupageref29_Ends.calls k _ _ l0 _ _ l1 t310 t311 _ ?side1 ?side2 ?side3 ?side4 A3.out).mono ?_); (case side1 => repeat (first | exact HR0.out | (with_reducible refine Kd.C_alloc ?_ _) | (with_reducible refine Kd.C_drewN ?_ _) | (with_reducible refine Kd.C_drew ?_))); (case side2 => exact HC0.out); (case side3 => repeat (first | exact HR1.out | (with_reducible refine Kd.C_alloc ?_ _) | (with_reducible refine Kd.C_drewN ?_ _) | (with_reducible refine Kd.C_drew ?_))); (case side4 => exact HC1.out); rintro e w4 ⟨rfl, hb⟩; refine ⟨_, rfl, ?_⟩; have n0_ := Aside0.mk (below_step (by repeat (first | (with_reducible first | exact HB.out | apply below_alloc | apply pw_below_drewN | apply below_drew1) | exact HB.out)) hb); clear HB; have HB := n0_; clear n0_; (try clear hb); (try clear hb2); (try clear hk); (try clear hi)))
 go_loopg [7, 8] k (fun kq v7 v8 w' => ∃ (x7_1 : List (S37)) (x8_1 : Int), v8 = .int .i64 x8_1 ∧ Aside0 (decoupageref29_Of.l0 kq l0 l1 t310 t311 x7_1 x8_1 = some r) ∧ Aside0 (kq ≤ k) ∧ Aside0 (Kd.R k37 37 w' w.heap.size (fun _ => True) v7 x7_1) ∧ Aside0 (Below w.heap.size w w'))
 case atStart => exact ⟨(([] : List (S37))), (t310), (by first | rfl | (simp; done) | (simp [*]; done)), H', ⟨Nat.le_refl _⟩, ⟨by first | exact Kd.R_nil _ _ _ _ _ | exact Kd.N_nil _ _ _ _ _ | exact Kd.V_nil _ _ _ _ _ | exact Kd.Q_nil _ _ _ _ _ | exact Kd.S_nil _ _ _ _ _⟩, ⟨by repeat (first | (with_reducible first | exact HB.out | apply below_alloc | apply pw_below_drewN | apply below_drew1) | exact HB.out)⟩⟩
 case round =>
  clear H'
  try clear c1
  try clear p2
  obtain ⟨x7_1, x8_1, rfl, HA, HK1, HO_7, HB⟩ := hrel
  cases gk with
  | zero => exact absurd HA.out (by simp [decoupageref29_Of.l0])
  | succ k1 =>
   have H := HA.out
   clear HA
   simp only [decoupageref29_Of.l0] at H
   by_cases c5 : x8_1 < (wrap64 ((l0.length : Int) - t311))
   ·rw [if_pos c5] at H
    have c5b0 : decide (x8_1 < (wrap64 ((l0.length : Int) - t311))) = true := decide_eq_true c5
    clear c5
    by_cases c6 : 0 ≤ x8_1
    ·rw [if_pos c6] at H
     have c6b0 : decide (0 ≤ x8_1) = true := decide_eq_true c6
     clear c6
     by_cases c7 : x8_1 < (l0.length : Int)
     ·rw [if_pos c7] at H
      have c7b0 : decide (x8_1 < (l0.length : Int)) = true := decide_eq_true c7
      clear c7
      replace H := Option.bind_eq_some_iff.mp H
      obtain ⟨⟨t313, t314, t315, t316⟩, A80, H⟩ := H
      replace H : (if x7_1.length < 4398046511104 then (decoupageref29_Of.l0 k1 l0 l1 t310 t311 (x7_1 ++ [(⟨t313, t314, t315, t316⟩ : S37)]) (wrap64 (x8_1 + 1))) else (none)) = some r := H
      have A8 := Aside0.mk A80
      clear A80
      by_cases c9 : x7_1.length < 4398046511104
      ·rw [if_pos c9] at H
       have LMc9 := Aside0.mk c9
       clear c9
       obtain ⟨y317, hy317⟩ : ∃ y_ : List (S37), y_ = (x7_1 ++ [(⟨t313, t314, t315, t316⟩ : S37)]) := ⟨_, rfl⟩
       replace H : (decoupageref29_Of.l0 k1 l0 l1 t310 t311 y317 (wrap64 (x8_1 + 1))) = some r := by first | (rw [hy317]; with_reducible exact H) | (have H2_ := (Option.bind_some _ _).symm.trans H; rw [hy317]; with_reducible exact H2_) | (have H2_ := (Option.bind_some _ _).symm.trans H; with_reducible exact H2_) | with_reducible exact H | (rw [hy317]; exact H) | exact H
       have Ny317 := Aside0.mk hy317
       clear hy317
       have H' := Aside0.mk H
       clear H
       have p312 : 0 ≤ (x8_1 : Int) := of_decide_eq_true (by first | (with_reducible assumption) | assumption)
       have q312 : x8_1 < (l0.length : Int) := of_decide_eq_true (by first | (with_reducible assumption) | assumption)
       obtain ⟨ad312, e312, hx312_0, hx312_1, hx312_2, hx312_3, hx312_4, hx312_5, hx312_6, hx312_7, hx312_8, hx312_9, hx312_10, hx312_11, hx312_12, hx312_13, hx312_14⟩ := at_T39 HR0.out x8_1 p312 q312
       cases e312
       replace hx312_0 := (HB.out.cell (World.block_lt_of_cell? w _ hx312_0)).trans hx312_0
       replace hx312_1 := (HB.out.cell (World.block_lt_of_cell? w _ hx312_1)).trans hx312_1
       replace hx312_2 := (HB.out.cell (World.block_lt_of_cell? w _ hx312_2)).trans hx312_2
       replace hx312_3 := (HB.out.cell (World.block_lt_of_cell? w _ hx312_3)).trans hx312_3
       replace hx312_4 := (HB.out.cell (World.block_lt_of_cell? w _ hx312_4)).trans hx312_4
       replace hx312_5 := (HB.out.cell (World.block_lt_of_cell? w _ hx312_5)).trans hx312_5
       replace hx312_6 := (HB.out.cell (World.block_lt_of_cell? w _ hx312_6)).trans hx312_6
       replace hx312_7 := (HB.out.cell (World.block_lt_of_cell? w _ hx312_7)).trans hx312_7
       replace hx312_8 := (HB.out.cell (World.block_lt_of_cell? w _ hx312_8)).trans hx312_8
       replace hx312_9 := (HB.out.cell (World.block_lt_of_cell? w _ hx312_9)).trans hx312_9
       replace hx312_10 := (HB.out.cell (World.block_lt_of_cell? w _ hx312_10)).trans hx312_10
       replace hx312_11 := (HB.out.cell (World.block_lt_of_cell? w _ hx312_11)).trans hx312_11
       replace hx312_12 := (HB.out.cell (World.block_lt_of_cell? w _ hx312_12)).trans hx312_12
       replace hx312_13 := (HB.out.cell (World.block_lt_of_cell? w _ hx312_13)).trans hx312_13
       replace hx312_14 := (HB.out.cell (World.block_lt_of_cell? w _ hx312_14)).trans hx312_14
       replace p312 := eq_true p312
       replace q312 := eq_true q312
       go_wp2_with (first | ((with_reducible refine gate_callee (f := 45) rfl ?_); refine goesL_ (some 30) rfl rfl Try.func45 (by kernel_rfl) rfl #[.agg #[.int .i64 ((rd_T39 l0 x8_1).f0), .int .i64 ((rd_T39 l0 x8_1).f1), .int .i64 ((rd_T39 l0 x8_1).f2.f0), .int .i64 ((rd_T39 l0 x8_1).f2.f1), .int .i64 ((rd_T39 l0 x8_1).f2.f2), .int .i64 ((rd_T39 l0 x8_1).f2.f3), .int .i64 ((rd_T39 l0 x8_1).f3.f0), .int .i64 ((rd_T39 l0 x8_1).f3.f1), .int .i64 ((rd_T39 l0 x8_1).f3.f2), .int .i64 ((rd_T39 l0 x8_1).f3.f3), .int .i64 ((rd_T39 l0 x8_1).f4.f0), .int .i64 ((rd_T39 l0 x8_1).f4.f1), .int .i64 ((rd_T39 l0 x8_1).f4.f2), .int .i64 ((rd_T39 l0 x8_1).f4.f3), .int .i64 ((rd_T39 l0 x8_1).f5)]] rfl (by (try simp only [List.map_toArray, List.map_cons, List.map_nil]); first | done | rfl | (simp only [List.length_drop, List.length_take]; rfl)) ?_; (with_reducible refine (decoupageref27_Seen.calls k1 ((rd_T39 l0 x8_1).f0) ((rd_T39 l0 x8_1).f1) ((rd_T39 l0 x8_1).f2.f0) ((rd_T39 l0 x8_1).f2.f1) ((rd_T39 l0 x8_1).f2.f2) ((rd_T39 l0 x8_1).f2.f3) ((rd_T39 l0 x8_1).f3.f0) ((rd_T39 l0 x8_1).f3.f1) ((rd_T39 l0 x8_1).f3.f2) ((rd_T39 l0 x8_1).f3.f3) ((rd_T39 l0 x8_1).f4.f0) ((rd_T39 l0 x8_1).f4.f1) ((rd_T39 l0 x8_1).f4.f2) ((rd_T39 l0 x8_1).f4.f3) ((rd_T39 l0 x8_1).f5) t313 t314 t315 t316 _ A8.out).mono ?_); rintro e w10 ⟨rfl, hb⟩; refine ⟨_, rfl, ?_⟩; have n0_ := Aside0.mk (Kd.R_below (by (with_reducible repeat (first | apply Kd.R_alloc | apply Kd.R_drewN | apply Kd.R_drew)); exact HO_7.out) hb); have n1_ := Aside0.mk (below_step (by repeat (first | (with_reducible first | exact HB.out | apply below_alloc | apply pw_below_drewN | apply below_drew1) | exact HB.out)) hb); clear HO_7; clear HB; have HO_7 := n0_; have HB := n1_; clear n0_ n1_; (try clear hb); (try clear hb2); (try clear hk); (try clear hi)) | ((with_reducible refine gate_builtin (b := .append) (xs := #[.tmp 25, .tmp 31]) rfl ?_); at_builtin; refine Kd.R_append k37 (w0 := w) w.heap.size rfl (.tmp 25) (.tmp 31) 29 37 (.agg #[(.int .i64 0), (.int .i64 0), (.int .i64 0), (.int .i64 0)]) 32 rfl Try.underlying29 info37 rfl (by decide) (by omega) u7 x7_1 (⟨t313, t314, t315, t316⟩ : S37) [.int .i64 t313, .int .i64 t314, .int .i64 t315, .int .i64 t316] (fun _ => True) (fun _ => False) rfl rfl ?aP (fun _ hk => hk.elim) ?aF ?aO ?aB ?aS ?aL ?_; (case aP => exact k37_mkM _ _ _ (⟨t313, t314, t315, t316⟩ : S37)); (case aB => exact (by repeat (first | (with_reducible first | exact HB.out | apply below_alloc | apply pw_below_drewN | apply below_drew1) | exact HB.out))); (case aF => exact (fun _ _ => trivial)); (case aO => exact (by (with_reducible repeat (first | apply Kd.R_alloc | apply Kd.R_drewN | apply Kd.R_drew)); exact HO_7.out)); (case aS => exact (below_size (by repeat (first | (with_reducible first | exact HB.out | apply below_alloc | apply pw_below_drewN | apply below_drew1) | exact HB.out)))); (case aL => have := LMc9.out; omega); intro v318 w11 ho hb hg hat; rw [← Ny317.out] at ho; have n0_ := Aside0.mk (hb); have n1_ := Aside0.mk (ho); clear HB; clear HO_7; have HB := n0_; have HO319 := n1_; clear n0_ n1_; clear ho hb hg hat))
       go_roundg k1
       case measure => have := HK1.out; omega
       case rel => exact ⟨(y317), (wrap64 (x8_1 + 1)), (by first | rfl | (simp; done) | (simp [*]; done)), H', ⟨by have := HK1.out; omega⟩, ⟨by (with_reducible repeat (first | apply Kd.R_alloc | apply Kd.R_drewN | apply Kd.R_drew)); exact HO319.out⟩, ⟨by repeat (first | (with_reducible first | exact HB.out | apply below_alloc | apply pw_below_drewN | apply below_drew1) | exact HB.out)⟩⟩
      ·rw [if_neg c9] at H
       exact absurd H (by simp)
     ·rw [if_neg c7] at H
      exact absurd H (by simp)
    ·rw [if_neg c6] at H
     exact absurd H (by simp)
   ·rw [if_neg c5] at H
    have c5b0 : decide (x8_1 < (wrap64 ((l0.length : Int) - t311))) = false := decide_eq_false c5
    clear c5
    have H' := Aside0.mk H
    clear H
    go_wp2
    go_loopg [7, 9] k1 (fun kq v7 v9 w' => ∃ (x7_2 : List (S37)) (x9_2 : Int), v9 = .int .i64 x9_2 ∧ Aside0 (decoupageref29_Of.l1 kq l1 t311 x7_2 x9_2 = some r) ∧ Aside0 (kq ≤ k1) ∧ Aside0 (Kd.R k37 37 w' w.heap.size (fun _ => True) v7 x7_2) ∧ Aside0 (Below w.heap.size w w'))
    case atStart => exact ⟨(x7_1), (t310), (by first | rfl | (simp; done) | (simp [*]; done)), H', ⟨Nat.le_refl _⟩, ⟨by (with_reducible repeat (first | apply Kd.R_alloc | apply Kd.R_drewN | apply Kd.R_drew)); exact HO_7.out⟩, ⟨by repeat (first | (with_reducible first | exact HB.out | apply below_alloc | apply pw_below_drewN | apply below_drew1) | exact HB.out)⟩⟩
    case round =>
     clear H'
     try clear c1
     try clear p2
     try clear p3
     try clear q3
     try clear hx3
     try clear c4
     try clear c5
     try clear c5b0
     try clear c6
     try clear c6b0
     try clear p6
     try clear c7
     try clear c7b0
     try clear c9
     try clear hx312_0
     try clear hx312_1
     try clear hx312_10
     try clear hx312_11
     try clear hx312_12
     try clear hx312_13
     try clear hx312_14
     try clear hx312_2
     try clear hx312_3
     try clear hx312_4
     try clear hx312_5
     try clear hx312_6
     try clear hx312_7
     try clear hx312_8
     try clear hx312_9
     try clear p2
     try clear p312
     try clear q312
     obtain ⟨x7_2, x9_2, rfl, HA, HK2, HO_7, HB⟩ := hrel
     cases gk with
     | zero => exact absurd HA.out (by simp [decoupageref29_Of.l1])
     | succ k2 =>
      have H := HA.out
      clear HA
      simp only [decoupageref29_Of.l1] at H
      by_cases c12 : x9_2 < (wrap64 ((l1.length : Int) - t311))
      ·rw [if_pos c12] at H
       have c12b0 : decide (x9_2 < (wrap64 ((l1.length : Int) - t311))) = true := decide_eq_true c12
       clear c12
       by_cases c13 : 0 ≤ x9_2
       ·rw [if_pos c13] at H
        have c13b0 : decide (0 ≤ x9_2) = true := decide_eq_true c13
        clear c13
        by_cases c14 : x9_2 < (l1.length : Int)
        ·rw [if_pos c14] at H
         have c14b0 : decide (x9_2 < (l1.length : Int)) = true := decide_eq_true c14
         clear c14
         replace H := Option.bind_eq_some_iff.mp H
         obtain ⟨⟨t321, t322, t323, t324⟩, A150, H⟩ := H
         replace H : (if x7_2.length < 4398046511104 then (decoupageref29_Of.l1 k2 l1 t311 (x7_2 ++ [(⟨t321, t322, t323, t324⟩ : S37)]) (wrap64 (x9_2 + 1))) else (none)) = some r := H
         have A15 := Aside0.mk A150
         clear A150
         by_cases c16 : x7_2.length < 4398046511104
         ·rw [if_pos c16] at H
          have LMc16 := Aside0.mk c16
          clear c16
          obtain ⟨y325, hy325⟩ : ∃ y_ : List (S37), y_ = (x7_2 ++ [(⟨t321, t322, t323, t324⟩ : S37)]) := ⟨_, rfl⟩
          replace H : (decoupageref29_Of.l1 k2 l1 t311 y325 (wrap64 (x9_2 + 1))) = some r := by first | (rw [hy325]; with_reducible exact H) | (have H2_ := (Option.bind_some _ _).symm.trans H; rw [hy325]; with_reducible exact H2_) | (have H2_ := (Option.bind_some _ _).symm.trans H; with_reducible exact H2_) | with_reducible exact H | (rw [hy325]; exact H) | exact H
          have Ny325 := Aside0.mk hy325
          clear hy325
          have H' := Aside0.mk H
          clear H
          have p320 : 0 ≤ (x9_2 : Int) := of_decide_eq_true (by first | (with_reducible assumption) | assumption)
          have q320 : x9_2 < (l1.length : Int) := of_decide_eq_true (by first | (with_reducible assumption) | assumption)
          obtain ⟨ad320, e320, hx320_0, hx320_1, hx320_2, hx320_3, hx320_4, hx320_5, hx320_6, hx320_7, hx320_8, hx320_9, hx320_10, hx320_11, hx320_12, hx320_13, hx320_14⟩ := at_T39 HR1.out x9_2 p320 q320
          cases e320
          replace hx320_0 := (HB.out.cell (World.block_lt_of_cell? w _ hx320_0)).trans hx320_0
          replace hx320_1 := (HB.out.cell (World.block_lt_of_cell? w _ hx320_1)).trans hx320_1
          replace hx320_2 := (HB.out.cell (World.block_lt_of_cell? w _ hx320_2)).trans hx320_2
          replace hx320_3 := (HB.out.cell (World.block_lt_of_cell? w _ hx320_3)).trans hx320_3
          replace hx320_4 := (HB.out.cell (World.block_lt_of_cell? w _ hx320_4)).trans hx320_4
          replace hx320_5 := (HB.out.cell (World.block_lt_of_cell? w _ hx320_5)).trans hx320_5
          replace hx320_6 := (HB.out.cell (World.block_lt_of_cell? w _ hx320_6)).trans hx320_6
          replace hx320_7 := (HB.out.cell (World.block_lt_of_cell? w _ hx320_7)).trans hx320_7
          replace hx320_8 := (HB.out.cell (World.block_lt_of_cell? w _ hx320_8)).trans hx320_8
          replace hx320_9 := (HB.out.cell (World.block_lt_of_cell? w _ hx320_9)).trans hx320_9
          replace hx320_10 := (HB.out.cell (World.block_lt_of_cell? w _ hx320_10)).trans hx320_10
          replace hx320_11 := (HB.out.cell (World.block_lt_of_cell? w _ hx320_11)).trans hx320_11
          replace hx320_12 := (HB.out.cell (World.block_lt_of_cell? w _ hx320_12)).trans hx320_12
          replace hx320_13 := (HB.out.cell (World.block_lt_of_cell? w _ hx320_13)).trans hx320_13
          replace hx320_14 := (HB.out.cell (World.block_lt_of_cell? w _ hx320_14)).trans hx320_14
          replace p320 := eq_true p320
          replace q320 := eq_true q320
          go_wp2_with (first | ((with_reducible refine gate_callee (f := 45) rfl ?_); refine goesL_ (some 47) rfl rfl Try.func45 (by kernel_rfl) rfl #[.agg #[.int .i64 ((rd_T39 l1 x9_2).f0), .int .i64 ((rd_T39 l1 x9_2).f1), .int .i64 ((rd_T39 l1 x9_2).f2.f0), .int .i64 ((rd_T39 l1 x9_2).f2.f1), .int .i64 ((rd_T39 l1 x9_2).f2.f2), .int .i64 ((rd_T39 l1 x9_2).f2.f3), .int .i64 ((rd_T39 l1 x9_2).f3.f0), .int .i64 ((rd_T39 l1 x9_2).f3.f1), .int .i64 ((rd_T39 l1 x9_2).f3.f2), .int .i64 ((rd_T39 l1 x9_2).f3.f3), .int .i64 ((rd_T39 l1 x9_2).f4.f0), .int .i64 ((rd_T39 l1 x9_2).f4.f1), .int .i64 ((rd_T39 l1 x9_2).f4.f2), .int .i64 ((rd_T39 l1 x9_2).f4.f3), .int .i64 ((rd_T39 l1 x9_2).f5)]] rfl (by (try simp only [List.map_toArray, List.map_cons, List.map_nil]); first | done | rfl | (simp only [List.length_drop, List.length_take]; rfl)) ?_; (with_reducible refine (decoupageref27_Seen.calls k2 ((rd_T39 l1 x9_2).f0) ((rd_T39 l1 x9_2).f1) ((rd_T39 l1 x9_2).f2.f0) ((rd_T39 l1 x9_2).f2.f1) ((rd_T39 l1 x9_2).f2.f2) ((rd_T39 l1 x9_2).f2.f3) ((rd_T39 l1 x9_2).f3.f0) ((rd_T39 l1 x9_2).f3.f1) ((rd_T39 l1 x9_2).f3.f2) ((rd_T39 l1 x9_2).f3.f3) ((rd_T39 l1 x9_2).f4.f0) ((rd_T39 l1 x9_2).f4.f1) ((rd_T39 l1 x9_2).f4.f2) ((rd_T39 l1 x9_2).f4.f3) ((rd_T39 l1 x9_2).f5) t321 t322 t323 t324 _ A15.out).mono ?_); rintro e w17 ⟨rfl, hb⟩; refine ⟨_, rfl, ?_⟩; have n0_ := Aside0.mk (Kd.R_below (by (with_reducible repeat (first | apply Kd.R_alloc | apply Kd.R_drewN | apply Kd.R_drew)); exact HO_7.out) hb); have n1_ := Aside0.mk (below_step (by repeat (first | (with_reducible first | exact HB.out | apply below_alloc | apply pw_below_drewN | apply below_drew1) | exact HB.out)) hb); clear HO_7; clear HB; have HO_7 := n0_; have HB := n1_; clear n0_ n1_; (try clear hb); (try clear hb2); (try clear hk); (try clear hi)) | ((with_reducible refine gate_builtin (b := .append) (xs := #[.tmp 42, .tmp 48]) rfl ?_); at_builtin; refine Kd.R_append k37 (w0 := w) w.heap.size rfl (.tmp 42) (.tmp 48) 29 37 (.agg #[(.int .i64 0), (.int .i64 0), (.int .i64 0), (.int .i64 0)]) 32 rfl Try.underlying29 info37 rfl (by decide) (by omega) u7 x7_2 (⟨t321, t322, t323, t324⟩ : S37) [.int .i64 t321, .int .i64 t322, .int .i64 t323, .int .i64 t324] (fun _ => True) (fun _ => False) rfl rfl ?aP (fun _ hk => hk.elim) ?aF ?aO ?aB ?aS ?aL ?_; (case aP => exact k37_mkM _ _ _ (⟨t321, t322, t323, t324⟩ : S37)); (case aB => exact (by repeat (first | (with_reducible first | exact HB.out | apply below_alloc | apply pw_below_drewN | apply below_drew1) | exact HB.out))); (case aF => exact (fun _ _ => trivial)); (case aO => exact (by (with_reducible repeat (first | apply Kd.R_alloc | apply Kd.R_drewN | apply Kd.R_drew)); exact HO_7.out)); (case aS => exact (below_size (by repeat (first | (with_reducible first | exact HB.out | apply below_alloc | apply pw_below_drewN | apply below_drew1) | exact HB.out)))); (case aL => have := LMc16.out; omega); intro v326 w18 ho hb hg hat; rw [← Ny325.out] at ho; have n0_ := Aside0.mk (hb); have n1_ := Aside0.mk (ho); clear HB; clear HO_7; have HB := n0_; have HO327 := n1_; clear n0_ n1_; clear ho hb hg hat))
          go_roundg k2
          case measure => have := HK1.out; have := HK2.out; omega
          case rel => exact ⟨(y325), (wrap64 (x9_2 + 1)), (by first | rfl | (simp; done) | (simp [*]; done)), H', ⟨by have := HK1.out; have := HK2.out; omega⟩, ⟨by (with_reducible repeat (first | apply Kd.R_alloc | apply Kd.R_drewN | apply Kd.R_drew)); exact HO327.out⟩, ⟨by repeat (first | (with_reducible first | exact HB.out | apply below_alloc | apply pw_below_drewN | apply below_drew1) | exact HB.out)⟩⟩
         ·rw [if_neg c16] at H
          exact absurd H (by simp)
        ·rw [if_neg c14] at H
         exact absurd H (by simp)
       ·rw [if_neg c13] at H
        exact absurd H (by simp)
      ·rw [if_neg c12] at H
       have c12b0 : decide (x9_2 < (wrap64 ((l1.length : Int) - t311))) = false := decide_eq_false c12
       clear c12
       replace H := Option.bind_eq_some_iff.mp H
       obtain ⟨t328, A190, H⟩ := H
       replace H : (some t328) = some r := H
       have A19 := Aside0.mk A190
       clear A190
       obtain rfl := Option.some.inj H
       obtain ⟨Ao20, co20, eo20⟩ := Kd.R_slice HO_7.out
       subst eo20
       go_wp2_with (first | ((with_reducible refine gate_callee (f := 46) rfl ?_); refine goesL_ (some 51) rfl rfl Try.func46 (by kernel_rfl) rfl #[.slice Ao20 x7_2.length co20] rfl (by (try simp only [List.map_toArray, List.map_cons, List.map_nil]); first | done | rfl | (simp only [List.length_drop, List.length_take]; rfl)) ?_; (with_reducible refine (decoupageref03_Join.calls k2 _ _ x7_2 t328 _ ?side1 ?side2 A19.out).mono ?_); (case side1 => repeat (first | exact (Kd.R_reads' HO_7.out).2.2 | (with_reducible refine Kd.C_alloc ?_ _) | (with_reducible refine Kd.C_drewN ?_ _) | (with_reducible refine Kd.C_drew ?_))); (case side2 => exact (Kd.R_reads' HO_7.out).2.1); rintro e w21 ⟨v329, rfl, ho0, hb⟩; refine ⟨_, rfl, ?_⟩; have n0_ := Aside0.mk (Kd.R_elder' (by (with_reducible repeat (first | apply Kd.R_alloc | apply Kd.R_drewN | apply Kd.R_drew)); exact HO_7.out) (Kd.R_base ho0) hb); have n1_ := Aside0.mk (Kd.R_lower (Kd.R_new' ho0 (Kd.R_lt (by (with_reducible repeat (first | apply Kd.R_alloc | apply Kd.R_drewN | apply Kd.R_drew)); exact HO_7.out))) (below_size (by repeat (first | (with_reducible first | exact HB.out | apply below_alloc | apply pw_below_drewN | apply below_drew1) | exact HB.out)))); have n2_ := Aside0.mk (below_step (by repeat (first | (with_reducible first | exact HB.out | apply below_alloc | apply pw_below_drewN | apply below_drew1) | exact HB.out)) hb); clear HO_7; clear HB; have HO_7 := n0_; have HO330 := n1_; have HB := n2_; clear n0_ n1_ n2_; (try clear hb); (try clear hb2); (try clear hk); (try clear hi); (try clear ho0)))
       go_ret
       exact ⟨_, by first | rfl | (simp [errW_none, errW_some] <;> rfl) | (simp [*, errW_none, errW_some] <;> rfl), by (with_reducible repeat (first | apply Kd.R_alloc | apply Kd.R_drewN | apply Kd.R_drew)); exact Kd.R_mono HO330.out (fun _ hk => trivial), by repeat (first | (with_reducible first | exact HB.out | apply below_alloc | apply pw_below_drewN | apply below_drew1) | exact HB.out)⟩

/-! ### decoupageref25_Same: function 20 -/
def decoupageref25_Same.l0 : Nat → List (S39) → List (S39) → Int → Int → Option (Bool)
 | 0, _, _, _, _ => none
 | k + 1, x0, x1, x12, x13 => if x13 < x12 then (if 0 ≤ x13 then (if x13 < (x0.length : Int) then (if x13 < (x1.length : Int) then (if (!(((rd_T39 x0 x13).f0) == ((rd_T39 x1 x13).f0)) || (!(((rd_T39 x0 x13).f1) == ((rd_T39 x1 x13).f1)) || ((!(((rd_T39 x0 x13).f2.f0) == ((rd_T39 x1 x13).f2.f0)) || (!(((rd_T39 x0 x13).f2.f1) == ((rd_T39 x1 x13).f2.f1)) || (!(((rd_T39 x0 x13).f2.f2) == ((rd_T39 x1 x13).f2.f2)) || (!(((rd_T39 x0 x13).f2.f3) == ((rd_T39 x1 x13).f2.f3)))))) || ((!(((rd_T39 x0 x13).f3.f0) == ((rd_T39 x1 x13).f3.f0)) || (!(((rd_T39 x0 x13).f3.f1) == ((rd_T39 x1 x13).f3.f1)) || (!(((rd_T39 x0 x13).f3.f2) == ((rd_T39 x1 x13).f3.f2)) || (!(((rd_T39 x0 x13).f3.f3) == ((rd_T39 x1 x13).f3.f3)))))) || ((!(((rd_T39 x0 x13).f4.f0) == ((rd_T39 x1 x13).f4.f0)) || (!(((rd_T39 x0 x13).f4.f1) == ((rd_T39 x1 x13).f4.f1)) || (!(((rd_T39 x0 x13).f4.f2) == ((rd_T39 x1 x13).f4.f2)) || (!(((rd_T39 x0 x13).f4.f3) == ((rd_T39 x1 x13).f4.f3)))))) || (!(((rd_T39 x0 x13).f5) == ((rd_T39 x1 x13).f5)))))))) = true then (some false) else (decoupageref25_Same.l0 k x0 x1 x12 (wrap64 (x13 + 1)))) else (none)) else (none)) else (none)) else (some true)
def decoupageref25_Same.f (k : Nat) (l0 : List (S39)) (l1 : List (S39)) : Option (Bool) := if (l0.length : Int) = (l1.length : Int) then (decoupageref25_Same.l0 k l0 l1 (l0.length : Int) 0) else (some false)
theorem decoupageref25_Same.mono_l : ∀ k, (∀ y0 y1 y2 y3, LeO (decoupageref25_Same.l0 k y0 y1 y2 y3) (decoupageref25_Same.l0 (k + 1) y0 y1 y2 y3))
 | 0 => fun _ _ _ _ r h => by simp [decoupageref25_Same.l0] at h
 | k + 1 => by
  have ih0 := decoupageref25_Same.mono_l k
  ·intro y0 y1 y2 y3
   unfold decoupageref25_Same.l0
   repeat' first
   | (with_reducible exact ih0 _ _ _ _)
   | (with_reducible exact LeO.refl _)
   | (with_reducible exact LeO.none _)
   | (with_reducible refine LeO.ite ?_ ?_)
   | (with_reducible refine LeO.bind ?_ (fun _ => ?_))
   | exact ih0 _ _ _ _
   | exact LeO.none _
   | refine LeO.ite ?_ ?_
   | refine LeO.bind ?_ (fun _ => ?_)
theorem decoupageref25_Same.mono : ∀ a0 a1 k, LeO (decoupageref25_Same.f k a0 a1) (decoupageref25_Same.f (k + 1) a0 a1) := by
 intro a0 a1 k
 have ih0 := decoupageref25_Same.mono_l k
 unfold decoupageref25_Same.f
 repeat' first
   | (with_reducible exact ih0 _ _ _ _)
   | (with_reducible exact LeO.refl _)
   | (with_reducible exact LeO.none _)
   | (with_reducible refine LeO.ite ?_ ?_)
   | (with_reducible refine LeO.bind ?_ (fun _ => ?_))
   | exact ih0 _ _ _ _
   | exact LeO.none _
   | refine LeO.ite ?_ ?_
   | refine LeO.bind ?_ (fun _ => ?_)
set_option maxHeartbeats 8000000 in
set_option maxRecDepth 100000 in
theorem decoupageref25_Same.calls (k : Nat) (A0 : Option Addr) (c0 : Nat) (l0 : List (S39)) (A1 : Option Addr) (c1 : Nat) (l1 : List (S39)) (r : Bool) (w : World) (hr0 : Kd.C k39 w A0 l0.length l0) (hc0 : l0.length ≤ c0) (hr1 : Kd.C k39 w A1 l1.length l1) (hc1 : l1.length ≤ c1) (h : decoupageref25_Same.f k l0 l1 = some r) :
  Calls Try.prog 20 #[.slice A0 l0.length c0, .slice A1 l1.length c1] w fun e w' => e = .returned (.bool r) ∧ Drawn0 w w' := by
 have hu39 := Try.underlying39
 have HR0 := Aside0.mk hr0
 have HC0 := Aside0.mk hc0
 clear hr0 hc0
 have HR1 := Aside0.mk hr1
 have HC1 := Aside0.mk hc1
 clear hr1 hc1
 have H : (if (l0.length : Int) = (l1.length : Int) then (decoupageref25_Same.l0 k l0 l1 (l0.length : Int) 0) else (some false)) = some r := h
 clear h
 by_cases c3 : (l0.length : Int) = (l1.length : Int)
 ·rw [if_pos c3] at H
  have c3b0 : ((l0.length : Int) == (l1.length : Int)) = true := beq_iff_eq.mpr c3
  have c3b1 : ((l0.length : Int) != (l1.length : Int)) = false := bne_eq_false_iff_eq.mpr c3
  have c3b2 : (l0.length == l1.length) = true := by first | simpa using c3 | (simp at c3 ⊢; omega)
  clear c3
  have H' := Aside0.mk H
  clear H
  go_enter Try.func20, Try.ntmps20
  go_wp2
  repeat (go_quiet (fail); try go_wp2)
  go_loopg [13] k (fun kq v13 w' => ∃ (x13_1 : Int), v13 = .int .i64 x13_1 ∧ Aside0 (decoupageref25_Same.l0 kq l0 l1 (l0.length : Int) x13_1 = some r) ∧ Aside0 (kq ≤ k) ∧ Drawn0 w w')
  case atStart => exact ⟨(0), (by first | rfl | (simp; done) | (simp [*]; done)), H', ⟨Nat.le_refl _⟩, by repeat (first | exact Drawn0.refl _ | apply Drawn0.step)⟩
  case round =>
   clear H'
   try clear c1
   try clear c2
   try clear p2
   try clear c3
   try clear c3b0
   try clear c3b1
   try clear c3b2
   obtain ⟨x13_1, rfl, HA, HK1, ⟨m1, rfl⟩⟩ := hrel
   cases gk with
   | zero => exact absurd HA.out (by simp [decoupageref25_Same.l0])
   | succ k1 =>
    have H := HA.out
    clear HA
    simp only [decoupageref25_Same.l0] at H
    by_cases c4 : x13_1 < (l0.length : Int)
    ·rw [if_pos c4] at H
     have c4b0 : decide (x13_1 < (l0.length : Int)) = true := decide_eq_true c4
     clear c4
     by_cases c5 : 0 ≤ x13_1
     ·rw [if_pos c5] at H
      have c5b0 : decide (0 ≤ x13_1) = true := decide_eq_true c5
      clear c5
      by_cases c6 : x13_1 < (l0.length : Int)
      ·rw [if_pos c6] at H
       have c6b0 : decide (x13_1 < (l0.length : Int)) = true := decide_eq_true c6
       clear c6
       by_cases c7 : x13_1 < (l1.length : Int)
       ·rw [if_pos c7] at H
        have c7b0 : decide (x13_1 < (l1.length : Int)) = true := decide_eq_true c7
        clear c7
        by_cases c8 : (!(((rd_T39 l0 x13_1).f0) == ((rd_T39 l1 x13_1).f0)) || (!(((rd_T39 l0 x13_1).f1) == ((rd_T39 l1 x13_1).f1)) || ((!(((rd_T39 l0 x13_1).f2.f0) == ((rd_T39 l1 x13_1).f2.f0)) || (!(((rd_T39 l0 x13_1).f2.f1) == ((rd_T39 l1 x13_1).f2.f1)) || (!(((rd_T39 l0 x13_1).f2.f2) == ((rd_T39 l1 x13_1).f2.f2)) || (!(((rd_T39 l0 x13_1).f2.f3) == ((rd_T39 l1 x13_1).f2.f3)))))) || ((!(((rd_T39 l0 x13_1).f3.f0) == ((rd_T39 l1 x13_1).f3.f0)) || (!(((rd_T39 l0 x13_1).f3.f1) == ((rd_T39 l1 x13_1).f3.f1)) || (!(((rd_T39 l0 x13_1).f3.f2) == ((rd_T39 l1 x13_1).f3.f2)) || (!(((rd_T39 l0 x13_1).f3.f3) == ((rd_T39 l1 x13_1).f3.f3)))))) || ((!(((rd_T39 l0 x13_1).f4.f0) == ((rd_T39 l1 x13_1).f4.f0)) || (!(((rd_T39 l0 x13_1).f4.f1) == ((rd_T39 l1 x13_1).f4.f1)) || (!(((rd_T39 l0 x13_1).f4.f2) == ((rd_T39 l1 x13_1).f4.f2)) || (!(((rd_T39 l0 x13_1).f4.f3) == ((rd_T39 l1 x13_1).f4.f3)))))) || (!(((rd_T39 l0 x13_1).f5) == ((rd_T39 l1 x13_1).f5)))))))) = true
        ·rw [if_pos c8] at H
         have c8b0 : (!(((rd_T39 l0 x13_1).f0) == ((rd_T39 l1 x13_1).f0)) || (!(((rd_T39 l0 x13_1).f1) == ((rd_T39 l1 x13_1).f1)) || ((!(((rd_T39 l0 x13_1).f2.f0) == ((rd_T39 l1 x13_1).f2.f0)) || (!(((rd_T39 l0 x13_1).f2.f1) == ((rd_T39 l1 x13_1).f2.f1)) || (!(((rd_T39 l0 x13_1).f2.f2) == ((rd_T39 l1 x13_1).f2.f2)) || (!(((rd_T39 l0 x13_1).f2.f3) == ((rd_T39 l1 x13_1).f2.f3)))))) || ((!(((rd_T39 l0 x13_1).f3.f0) == ((rd_T39 l1 x13_1).f3.f0)) || (!(((rd_T39 l0 x13_1).f3.f1) == ((rd_T39 l1 x13_1).f3.f1)) || (!(((rd_T39 l0 x13_1).f3.f2) == ((rd_T39 l1 x13_1).f3.f2)) || (!(((rd_T39 l0 x13_1).f3.f3) == ((rd_T39 l1 x13_1).f3.f3)))))) || ((!(((rd_T39 l0 x13_1).f4.f0) == ((rd_T39 l1 x13_1).f4.f0)) || (!(((rd_T39 l0 x13_1).f4.f1) == ((rd_T39 l1 x13_1).f4.f1)) || (!(((rd_T39 l0 x13_1).f4.f2) == ((rd_T39 l1 x13_1).f4.f2)) || (!(((rd_T39 l0 x13_1).f4.f3) == ((rd_T39 l1 x13_1).f4.f3)))))) || (!(((rd_T39 l0 x13_1).f5) == ((rd_T39 l1 x13_1).f5)))))))) = true := c8
         clear c8
         obtain rfl := Option.some.inj H
         have p331 : 0 ≤ (x13_1 : Int) := of_decide_eq_true (by first | (with_reducible assumption) | assumption)
         have q331 : x13_1 < (l0.length : Int) := of_decide_eq_true (by first | (with_reducible assumption) | assumption)
         obtain ⟨ad331, e331, hx331_0, hx331_1, hx331_2, hx331_3, hx331_4, hx331_5, hx331_6, hx331_7, hx331_8, hx331_9, hx331_10, hx331_11, hx331_12, hx331_13, hx331_14⟩ := at_T39 HR0.out x13_1 p331 q331
         cases e331
         replace p331 := eq_true p331
         replace q331 := eq_true q331
         have p332 : 0 ≤ (x13_1 : Int) := of_decide_eq_true (by first | (with_reducible assumption) | assumption)
         have q332 : x13_1 < (l1.length : Int) := of_decide_eq_true (by first | (with_reducible assumption) | assumption)
         obtain ⟨ad332, e332, hx332_0, hx332_1, hx332_2, hx332_3, hx332_4, hx332_5, hx332_6, hx332_7, hx332_8, hx332_9, hx332_10, hx332_11, hx332_12, hx332_13, hx332_14⟩ := at_T39 HR1.out x13_1 p332 q332
         cases e332
         replace p332 := eq_true p332
         replace q332 := eq_true q332
         go_wp2
         repeat (go_quiet (fail); try go_wp2)
         go_ret
         exact ⟨by first | rfl | (simp; done) | (simp [*]; done), by repeat (first | exact Drawn0.refl _ | apply Drawn0.step)⟩
        ·rw [if_neg c8] at H
         have c8b0 : (!(((rd_T39 l0 x13_1).f0) == ((rd_T39 l1 x13_1).f0)) || (!(((rd_T39 l0 x13_1).f1) == ((rd_T39 l1 x13_1).f1)) || ((!(((rd_T39 l0 x13_1).f2.f0) == ((rd_T39 l1 x13_1).f2.f0)) || (!(((rd_T39 l0 x13_1).f2.f1) == ((rd_T39 l1 x13_1).f2.f1)) || (!(((rd_T39 l0 x13_1).f2.f2) == ((rd_T39 l1 x13_1).f2.f2)) || (!(((rd_T39 l0 x13_1).f2.f3) == ((rd_T39 l1 x13_1).f2.f3)))))) || ((!(((rd_T39 l0 x13_1).f3.f0) == ((rd_T39 l1 x13_1).f3.f0)) || (!(((rd_T39 l0 x13_1).f3.f1) == ((rd_T39 l1 x13_1).f3.f1)) || (!(((rd_T39 l0 x13_1).f3.f2) == ((rd_T39 l1 x13_1).f3.f2)) || (!(((rd_T39 l0 x13_1).f3.f3) == ((rd_T39 l1 x13_1).f3.f3)))))) || ((!(((rd_T39 l0 x13_1).f4.f0) == ((rd_T39 l1 x13_1).f4.f0)) || (!(((rd_T39 l0 x13_1).f4.f1) == ((rd_T39 l1 x13_1).f4.f1)) || (!(((rd_T39 l0 x13_1).f4.f2) == ((rd_T39 l1 x13_1).f4.f2)) || (!(((rd_T39 l0 x13_1).f4.f3) == ((rd_T39 l1 x13_1).f4.f3)))))) || (!(((rd_T39 l0 x13_1).f5) == ((rd_T39 l1 x13_1).f5)))))))) = false := by simpa using c8
         clear c8
         have H' := Aside0.mk H
         clear H
         have p331 : 0 ≤ (x13_1 : Int) := of_decide_eq_true (by first | (with_reducible assumption) | assumption)
         have q331 : x13_1 < (l0.length : Int) := of_decide_eq_true (by first | (with_reducible assumption) | assumption)
         obtain ⟨ad331, e331, hx331_0, hx331_1, hx331_2, hx331_3, hx331_4, hx331_5, hx331_6, hx331_7, hx331_8, hx331_9, hx331_10, hx331_11, hx331_12, hx331_13, hx331_14⟩ := at_T39 HR0.out x13_1 p331 q331
         cases e331
         replace p331 := eq_true p331
         replace q331 := eq_true q331
         have p332 : 0 ≤ (x13_1 : Int) := of_decide_eq_true (by first | (with_reducible assumption) | assumption)
         have q332 : x13_1 < (l1.length : Int) := of_decide_eq_true (by first | (with_reducible assumption) | assumption)
         obtain ⟨ad332, e332, hx332_0, hx332_1, hx332_2, hx332_3, hx332_4, hx332_5, hx332_6, hx332_7, hx332_8, hx332_9, hx332_10, hx332_11, hx332_12, hx332_13, hx332_14⟩ := at_T39 HR1.out x13_1 p332 q332
         cases e332
         replace p332 := eq_true p332
         replace q332 := eq_true q332
         go_wp2
         repeat (go_quiet (fail); try go_wp2)
         go_roundg k1
         case measure => have := HK1.out; omega
         case rel => exact ⟨(wrap64 (x13_1 + 1)), (by first | rfl | (simp; done) | (simp [*]; done)), H', ⟨by have := HK1.out; omega⟩, by repeat (first | exact Drawn0.refl _ | apply Drawn0.step)⟩
       ·rw [if_neg c7] at H
        exact absurd H (by simp)
      ·rw [if_neg c6] at H
       exact absurd H (by simp)
     ·rw [if_neg c5] at H
      exact absurd H (by simp)
    ·rw [if_neg c4] at H
     have c4b0 : decide (x13_1 < (l0.length : Int)) = false := decide_eq_false c4
     clear c4
     obtain rfl := Option.some.inj H
     go_wp2
     repeat (go_quiet (fail); try go_wp2)
     go_ret
     exact ⟨by first | rfl | (simp; done) | (simp [*]; done), by repeat (first | exact Drawn0.refl _ | apply Drawn0.step)⟩
 ·rw [if_neg c3] at H
  have c3b0 : ((l0.length : Int) == (l1.length : Int)) = false := beq_eq_false_iff_ne.mpr c3
  have c3b1 : ((l0.length : Int) != (l1.length : Int)) = true := bne_iff_ne.mpr c3
  have c3b2 : (l0.length == l1.length) = false := by first | simpa using c3 | (simp at c3 ⊢; omega)
  obtain rfl := Option.some.inj H
  go_enter Try.func20, Try.ntmps20
  go_wp2
  repeat (go_quiet (fail); try go_wp2)
  go_ret
  exact ⟨by first | rfl | (simp; done) | (simp [*]; done), by repeat (first | exact Drawn0.refl _ | apply Drawn0.step)⟩

/-! ### decoupagelaw29_HarmTells: function 3 -/
def decoupagelaw29_HarmTells.j0 : Nat → List (S39) → List (S39) → Bool → Option (Bool)
 | 0, _, _, _ => none
 | k + 1, x0, x1, x20 => if x20 = true then ((decoupagelaw29_awake.f k).bind fun t334 => (some t334)) else ((decoupageref29_Ends.f k x0 x1).bind fun bt335 => ((harm_Parts.f k x0 x1).bind fun bt337 => ((harm_Of.f k x0 x1).bind fun t343 => ((decoupageref29_Of.f k x0 x1).bind fun t346 => ((decoupageref02_Same.f k t343 t346).bind fun t349 => (if t349 = true then (if 0 ≤ bt335.1 then (if bt335.1 ≤ (wrap64 ((x0.length : Int) - bt335.2)) then (if (wrap64 ((x0.length : Int) - bt335.2)) ≤ (x0.length : Int) then ((decoupageref25_Same.f k bt337.1 ((x0.take ((wrap64 ((x0.length : Int) - bt335.2)) : Int).toNat).drop (bt335.1 : Int).toNat)).bind fun t354 => (if t354 = true then (if bt335.1 ≤ (wrap64 ((x1.length : Int) - bt335.2)) then (if (wrap64 ((x1.length : Int) - bt335.2)) ≤ (x1.length : Int) then ((decoupageref25_Same.f k bt337.2 ((x1.take ((wrap64 ((x1.length : Int) - bt335.2)) : Int).toNat).drop (bt335.1 : Int).toNat)).bind fun t359 => (some t359)) else (none)) else (none)) else (some false))) else (none)) else (none)) else (none)) else (some false)))))))
def decoupagelaw29_HarmTells.f (k : Nat) (l0 : List (S39)) (l1 : List (S39)) : Option (Bool) := (decoupagelaw29_awake.f k).bind fun t333 => (if t333 = true then (if (l0.length : Int) > 5 then (decoupagelaw29_HarmTells.j0 k l0 l1 true) else (decoupagelaw29_HarmTells.j0 k l0 l1 (decide ((l1.length : Int) > 5)))) else (decoupagelaw29_HarmTells.j0 k l0 l1 true))
theorem decoupagelaw29_HarmTells.mono_l : ∀ k, (∀ y0 y1 y2, LeO (decoupagelaw29_HarmTells.j0 k y0 y1 y2) (decoupagelaw29_HarmTells.j0 (k + 1) y0 y1 y2))
 | 0 => fun _ _ _ r h => by simp [decoupagelaw29_HarmTells.j0] at h
 | k + 1 => by
  have ih0 := decoupagelaw29_HarmTells.mono_l k
  ·intro y0 y1 y2
   unfold decoupagelaw29_HarmTells.j0
   repeat' first
   | (with_reducible exact ih0 _ _ _)
   | (with_reducible exact decoupagelaw29_awake.mono _)
   | (with_reducible exact decoupageref02_Same.mono _ _ _)
   | (with_reducible exact decoupageref25_Same.mono _ _ _)
   | (with_reducible exact decoupageref29_Ends.mono _ _ _)
   | (with_reducible exact decoupageref29_Of.mono _ _ _)
   | (with_reducible exact harm_Of.mono _ _ _)
   | (with_reducible exact harm_Parts.mono _ _ _)
   | (with_reducible exact LeO.refl _)
   | (with_reducible exact LeO.none _)
   | (with_reducible refine LeO.ite ?_ ?_)
   | (with_reducible refine LeO.bind ?_ (fun _ => ?_))
   | exact ih0 _ _ _
   | exact decoupagelaw29_awake.mono _
   | exact decoupageref02_Same.mono _ _ _
   | exact decoupageref25_Same.mono _ _ _
   | exact decoupageref29_Ends.mono _ _ _
   | exact decoupageref29_Of.mono _ _ _
   | exact harm_Of.mono _ _ _
   | exact harm_Parts.mono _ _ _
   | exact LeO.none _
   | refine LeO.ite ?_ ?_
   | refine LeO.bind ?_ (fun _ => ?_)
theorem decoupagelaw29_HarmTells.mono : ∀ a0 a1 k, LeO (decoupagelaw29_HarmTells.f k a0 a1) (decoupagelaw29_HarmTells.f (k + 1) a0 a1) := by
 intro a0 a1 k
 have ih0 := decoupagelaw29_HarmTells.mono_l k
 unfold decoupagelaw29_HarmTells.f
 repeat' first
   | (with_reducible exact ih0 _ _ _)
   | (with_reducible exact decoupagelaw29_awake.mono _)
   | (with_reducible exact decoupageref02_Same.mono _ _ _)
   | (with_reducible exact decoupageref25_Same.mono _ _ _)
   | (with_reducible exact decoupageref29_Ends.mono _ _ _)
   | (with_reducible exact decoupageref29_Of.mono _ _ _)
   | (with_reducible exact harm_Of.mono _ _ _)
   | (with_reducible exact harm_Parts.mono _ _ _)
   | (with_reducible exact LeO.refl _)
   | (with_reducible exact LeO.none _)
   | (with_reducible refine LeO.ite ?_ ?_)
   | (with_reducible refine LeO.bind ?_ (fun _ => ?_))
   | exact ih0 _ _ _
   | exact decoupagelaw29_awake.mono _
   | exact decoupageref02_Same.mono _ _ _
   | exact decoupageref25_Same.mono _ _ _
   | exact decoupageref29_Ends.mono _ _ _
   | exact decoupageref29_Of.mono _ _ _
   | exact harm_Of.mono _ _ _
   | exact harm_Parts.mono _ _ _
   | exact LeO.none _
   | refine LeO.ite ?_ ?_
   | refine LeO.bind ?_ (fun _ => ?_)
set_option maxHeartbeats 8000000 in
set_option maxRecDepth 100000 in
theorem decoupagelaw29_HarmTells.calls (k : Nat) (A0 : Option Addr) (c0 : Nat) (l0 : List (S39)) (A1 : Option Addr) (c1 : Nat) (l1 : List (S39)) (r : Bool) (w : World) (hr0 : Kd.C k39 w A0 l0.length l0) (hc0 : l0.length ≤ c0) (hr1 : Kd.C k39 w A1 l1.length l1) (hc1 : l1.length ≤ c1) (h : decoupagelaw29_HarmTells.f k l0 l1 = some r) :
  Calls Try.prog 3 #[.slice A0 l0.length c0, .slice A1 l1.length c1] w fun e w' => e = .returned (.bool r) ∧ Below w.heap.size w w' := by
 have HR0 := Aside0.mk hr0
 have HC0 := Aside0.mk hc0
 clear hr0 hc0
 have HR1 := Aside0.mk hr1
 have HC1 := Aside0.mk hc1
 clear hr1 hc1
 have HB := Aside0.mk (Below.refl w.heap.size w)
 have H : ((decoupagelaw29_awake.f k).bind fun t333 => (if t333 = true then (if (l0.length : Int) > 5 then (decoupagelaw29_HarmTells.j0 k l0 l1 true) else (decoupagelaw29_HarmTells.j0 k l0 l1 (decide ((l1.length : Int) > 5)))) else (decoupagelaw29_HarmTells.j0 k l0 l1 true))) = some r := h
 clear h
 have HC3 := Aside0.mk H
 clear H
 go_enter Try.func3, Try.ntmps3
 go_upto_region 1 with (fail)
 go_cut [20] (fun v20 wc => ∃ (kq : Nat) (x20_2 : Bool), v20 = .bool x20_2 ∧ Aside0 (decoupagelaw29_HarmTells.j0 kq l0 l1 x20_2 = some r) ∧ Aside0 (kq ≤ k) ∧ Aside0 (Below w.heap.size w wc))
 case first =>
  have H := HC3.out
  clear HC3
  replace H := Option.bind_eq_some_iff.mp H
  obtain ⟨t333, A40, H⟩ := H
  replace H : (if t333 = true then (if (l0.length : Int) > 5 then (decoupagelaw29_HarmTells.j0 k l0 l1 true) else (decoupagelaw29_HarmTells.j0 k l0 l1 (decide ((l1.length : Int) > 5)))) else (decoupagelaw29_HarmTells.j0 k l0 l1 true)) = some r := H
  have A4 := Aside0.mk A40
  clear A40
  by_cases c5 : t333 = true
  ·subst c5
   have H1 : (if (l0.length : Int) > 5 then (decoupagelaw29_HarmTells.j0 k l0 l1 true) else (decoupagelaw29_HarmTells.j0 k l0 l1 (decide ((l1.length : Int) > 5)))) = some r := by rw [if_pos rfl] at H; exact H
   clear H
   have H := H1
   clear H1
   by_cases c6 : (l0.length : Int) > 5
   ·rw [if_pos c6] at H
    have c6b0 : decide (5 < (l0.length : Int)) = true := decide_eq_true c6
    have c6b1 : decide (5 < l0.length) = true := decide_eq_true (by omega)
    clear c6
    (first | rw [c6b0] | (simp only [i64_w, i32_w]; rw [c6b0]) | skip)
    have H' := Aside0.mk H
    clear H
    go_wp2_with (first | ((with_reducible refine gate_callee (f := 14) rfl ?_); refine goesL_ (some 9) rfl rfl Try.func14 (by kernel_rfl) rfl #[] rfl (by (try simp only [List.map_toArray, List.map_cons, List.map_nil]); first | done | rfl | (simp only [List.length_drop, List.length_take]; rfl)) ?_; (with_reducible refine (decoupagelaw29_awake.calls k  true _ A4.out).mono ?_); rintro e w7 ⟨rfl, hb⟩; refine ⟨_, rfl, ?_⟩; have n0_ := Aside0.mk (below_step (by repeat (first | (with_reducible first | exact HB.out | apply below_alloc | apply pw_below_drewN | apply below_drew1) | exact HB.out)) hb); clear HB; have HB := n0_; clear n0_; (try clear hb); (try clear hb2); (try clear hk); (try clear hi)))
    go_meet
    case rel => exact ⟨_, (true), (by first | rfl | (simp; done) | (simp [*]; done)), H', ⟨by first | omega | exact Nat.le_refl _⟩, ⟨by repeat (first | (with_reducible first | exact HB.out | apply below_alloc | apply pw_below_drewN | apply below_drew1) | exact HB.out)⟩⟩
   ·rw [if_neg c6] at H
    have c6b0 : decide (5 < (l0.length : Int)) = false := decide_eq_false c6
    have c6b1 : decide (5 < l0.length) = false := decide_eq_false (by omega)
    clear c6
    (first | rw [c6b0] | (simp only [i64_w, i32_w]; rw [c6b0]) | skip)
    have H' := Aside0.mk H
    clear H
    go_wp2_with (first | ((with_reducible refine gate_callee (f := 14) rfl ?_); refine goesL_ (some 9) rfl rfl Try.func14 (by kernel_rfl) rfl #[] rfl (by (try simp only [List.map_toArray, List.map_cons, List.map_nil]); first | done | rfl | (simp only [List.length_drop, List.length_take]; rfl)) ?_; (with_reducible refine (decoupagelaw29_awake.calls k  true _ A4.out).mono ?_); rintro e w8 ⟨rfl, hb⟩; refine ⟨_, rfl, ?_⟩; have n0_ := Aside0.mk (below_step (by repeat (first | (with_reducible first | exact HB.out | apply below_alloc | apply pw_below_drewN | apply below_drew1) | exact HB.out)) hb); clear HB; have HB := n0_; clear n0_; (try clear hb); (try clear hb2); (try clear hk); (try clear hi)))
    go_meet
    case rel => exact ⟨_, (decide ((l1.length : Int) > 5)), (by first | rfl | (simp; done) | (simp [*]; done)), H', ⟨by first | omega | exact Nat.le_refl _⟩, ⟨by repeat (first | (with_reducible first | exact HB.out | apply below_alloc | apply pw_below_drewN | apply below_drew1) | exact HB.out)⟩⟩
  ·replace c5 := Bool.eq_false_iff.mpr c5
   subst c5
   have H1 : (decoupagelaw29_HarmTells.j0 k l0 l1 true) = some r := by rw [if_neg (show ¬ (false = true) by decide)] at H; exact H
   clear H
   have H := H1
   clear H1
   have H' := Aside0.mk H
   clear H
   go_wp2_with (first | ((with_reducible refine gate_callee (f := 14) rfl ?_); refine goesL_ (some 9) rfl rfl Try.func14 (by kernel_rfl) rfl #[] rfl (by (try simp only [List.map_toArray, List.map_cons, List.map_nil]); first | done | rfl | (simp only [List.length_drop, List.length_take]; rfl)) ?_; (with_reducible refine (decoupagelaw29_awake.calls k  false _ A4.out).mono ?_); rintro e w9 ⟨rfl, hb⟩; refine ⟨_, rfl, ?_⟩; have n0_ := Aside0.mk (below_step (by repeat (first | (with_reducible first | exact HB.out | apply below_alloc | apply pw_below_drewN | apply below_drew1) | exact HB.out)) hb); clear HB; have HB := n0_; clear n0_; (try clear hb); (try clear hb2); (try clear hk); (try clear hi)))
   go_meet
   case rel => exact ⟨_, (true), (by first | rfl | (simp; done) | (simp [*]; done)), H', ⟨by first | omega | exact Nat.le_refl _⟩, ⟨by repeat (first | (with_reducible first | exact HB.out | apply below_alloc | apply pw_below_drewN | apply below_drew1) | exact HB.out)⟩⟩
 case rest =>
  clear HC3
  try clear c1
  try clear p2
  try clear c3
  try clear c5
  try clear c6
  try clear c6b0
  try clear c6b1
  obtain ⟨kq, x20_2, rfl, HA, HJ2, HB⟩ := hcut
  cases kq with
  | zero => exact absurd HA.out (by simp [decoupagelaw29_HarmTells.j0])
  | succ kj2 =>
   have H := HA.out
   clear HA
   simp only [decoupagelaw29_HarmTells.j0] at H
   by_cases c10 : x20_2 = true
   ·subst c10
    have H1 : ((decoupagelaw29_awake.f kj2).bind fun t334 => (some t334)) = some r := by rw [if_pos rfl] at H; exact H
    clear H
    have H := H1
    clear H1
    replace H := Option.bind_eq_some_iff.mp H
    obtain ⟨t334, A110, H⟩ := H
    replace H : (some t334) = some r := H
    have A11 := Aside0.mk A110
    clear A110
    obtain rfl := Option.some.inj H
    go_wp2_with (first | ((with_reducible refine gate_callee (f := 14) rfl ?_); refine goesL_ (some 21) rfl rfl Try.func14 (by kernel_rfl) rfl #[] rfl (by (try simp only [List.map_toArray, List.map_cons, List.map_nil]); first | done | rfl | (simp only [List.length_drop, List.length_take]; rfl)) ?_; (with_reducible refine (decoupagelaw29_awake.calls kj2  t334 _ A11.out).mono ?_); rintro e w12 ⟨rfl, hb⟩; refine ⟨_, rfl, ?_⟩; have n0_ := Aside0.mk (below_step (by repeat (first | (with_reducible first | exact HB.out | apply below_alloc | apply pw_below_drewN | apply below_drew1) | exact HB.out)) hb); clear HB; have HB := n0_; clear n0_; (try clear hb); (try clear hb2); (try clear hk); (try clear hi)))
    go_ret
    exact ⟨by first | rfl | (simp [errW_none, errW_some] <;> rfl) | (simp [*, errW_none, errW_some] <;> rfl), by repeat (first | (with_reducible first | exact HB.out | apply below_alloc | apply pw_below_drewN | apply below_drew1) | exact HB.out)⟩
   ·replace c10 := Bool.eq_false_iff.mpr c10
    subst c10
    have H1 : ((decoupageref29_Ends.f kj2 l0 l1).bind fun bt335 => ((harm_Parts.f kj2 l0 l1).bind fun bt337 => ((harm_Of.f kj2 l0 l1).bind fun t343 => ((decoupageref29_Of.f kj2 l0 l1).bind fun t346 => ((decoupageref02_Same.f kj2 t343 t346).bind fun t349 => (if t349 = true then (if 0 ≤ bt335.1 then (if bt335.1 ≤ (wrap64 ((l0.length : Int) - bt335.2)) then (if (wrap64 ((l0.length : Int) - bt335.2)) ≤ (l0.length : Int) then ((decoupageref25_Same.f kj2 bt337.1 ((l0.take ((wrap64 ((l0.length : Int) - bt335.2)) : Int).toNat).drop (bt335.1 : Int).toNat)).bind fun t354 => (if t354 = true then (if bt335.1 ≤ (wrap64 ((l1.length : Int) - bt335.2)) then (if (wrap64 ((l1.length : Int) - bt335.2)) ≤ (l1.length : Int) then ((decoupageref25_Same.f kj2 bt337.2 ((l1.take ((wrap64 ((l1.length : Int) - bt335.2)) : Int).toNat).drop (bt335.1 : Int).toNat)).bind fun t359 => (some t359)) else (none)) else (none)) else (some false))) else (none)) else (none)) else (none)) else (some false))))))) = some r := by rw [if_neg (show ¬ (false = true) by decide)] at H; exact H
    clear H
    have H := H1
    clear H1
    replace H := Option.bind_eq_some_iff.mp H
    obtain ⟨⟨t335, t336⟩, A130, H⟩ := H
    replace H : ((harm_Parts.f kj2 l0 l1).bind fun bt337 => ((harm_Of.f kj2 l0 l1).bind fun t343 => ((decoupageref29_Of.f kj2 l0 l1).bind fun t346 => ((decoupageref02_Same.f kj2 t343 t346).bind fun t349 => (if t349 = true then (if 0 ≤ t335 then (if t335 ≤ (wrap64 ((l0.length : Int) - t336)) then (if (wrap64 ((l0.length : Int) - t336)) ≤ (l0.length : Int) then ((decoupageref25_Same.f kj2 bt337.1 ((l0.take ((wrap64 ((l0.length : Int) - t336)) : Int).toNat).drop (t335 : Int).toNat)).bind fun t354 => (if t354 = true then (if t335 ≤ (wrap64 ((l1.length : Int) - t336)) then (if (wrap64 ((l1.length : Int) - t336)) ≤ (l1.length : Int) then ((decoupageref25_Same.f kj2 bt337.2 ((l1.take ((wrap64 ((l1.length : Int) - t336)) : Int).toNat).drop (t335 : Int).toNat)).bind fun t359 => (some t359)) else (none)) else (none)) else (some false))) else (none)) else (none)) else (none)) else (some false)))))) = some r := H
    have A13 := Aside0.mk A130
    clear A130
    replace H := Option.bind_eq_some_iff.mp H
    obtain ⟨⟨t337, t340⟩, A140, H⟩ := H
    replace H : ((harm_Of.f kj2 l0 l1).bind fun t343 => ((decoupageref29_Of.f kj2 l0 l1).bind fun t346 => ((decoupageref02_Same.f kj2 t343 t346).bind fun t349 => (if t349 = true then (if 0 ≤ t335 then (if t335 ≤ (wrap64 ((l0.length : Int) - t336)) then (if (wrap64 ((l0.length : Int) - t336)) ≤ (l0.length : Int) then ((decoupageref25_Same.f kj2 t337 ((l0.take ((wrap64 ((l0.length : Int) - t336)) : Int).toNat).drop (t335 : Int).toNat)).bind fun t354 => (if t354 = true then (if t335 ≤ (wrap64 ((l1.length : Int) - t336)) then (if (wrap64 ((l1.length : Int) - t336)) ≤ (l1.length : Int) then ((decoupageref25_Same.f kj2 t340 ((l1.take ((wrap64 ((l1.length : Int) - t336)) : Int).toNat).drop (t335 : Int).toNat)).bind fun t359 => (some t359)) else (none)) else (none)) else (some false))) else (none)) else (none)) else (none)) else (some false))))) = some r := H
    have A14 := Aside0.mk A140
    clear A140
    replace H := Option.bind_eq_some_iff.mp H
    obtain ⟨t343, A150, H⟩ := H
    replace H : ((decoupageref29_Of.f kj2 l0 l1).bind fun t346 => ((decoupageref02_Same.f kj2 t343 t346).bind fun t349 => (if t349 = true then (if 0 ≤ t335 then (if t335 ≤ (wrap64 ((l0.length : Int) - t336)) then (if (wrap64 ((l0.length : Int) - t336)) ≤ (l0.length : Int) then ((decoupageref25_Same.f kj2 t337 ((l0.take ((wrap64 ((l0.length : Int) - t336)) : Int).toNat).drop (t335 : Int).toNat)).bind fun t354 => (if t354 = true then (if t335 ≤ (wrap64 ((l1.length : Int) - t336)) then (if (wrap64 ((l1.length : Int) - t336)) ≤ (l1.length : Int) then ((decoupageref25_Same.f kj2 t340 ((l1.take ((wrap64 ((l1.length : Int) - t336)) : Int).toNat).drop (t335 : Int).toNat)).bind fun t359 => (some t359)) else (none)) else (none)) else (some false))) else (none)) else (none)) else (none)) else (some false)))) = some r := H
    have A15 := Aside0.mk A150
    clear A150
    replace H := Option.bind_eq_some_iff.mp H
    obtain ⟨t346, A160, H⟩ := H
    replace H : ((decoupageref02_Same.f kj2 t343 t346).bind fun t349 => (if t349 = true then (if 0 ≤ t335 then (if t335 ≤ (wrap64 ((l0.length : Int) - t336)) then (if (wrap64 ((l0.length : Int) - t336)) ≤ (l0.length : Int) then ((decoupageref25_Same.f kj2 t337 ((l0.take ((wrap64 ((l0.length : Int) - t336)) : Int).toNat).drop (t335 : Int).toNat)).bind fun t354 => (if t354 = true then (if t335 ≤ (wrap64 ((l1.length : Int) - t336)) then (if (wrap64 ((l1.length : Int) - t336)) ≤ (l1.length : Int) then ((decoupageref25_Same.f kj2 t340 ((l1.take ((wrap64 ((l1.length : Int) - t336)) : Int).toNat).drop (t335 : Int).toNat)).bind fun t359 => (some t359)) else (none)) else (none)) else (some false))) else (none)) else (none)) else (none)) else (some false))) = some r := H
    have A16 := Aside0.mk A160
    clear A160
    replace H := Option.bind_eq_some_iff.mp H
    obtain ⟨t349, A170, H⟩ := H
    replace H : (if t349 = true then (if 0 ≤ t335 then (if t335 ≤ (wrap64 ((l0.length : Int) - t336)) then (if (wrap64 ((l0.length : Int) - t336)) ≤ (l0.length : Int) then ((decoupageref25_Same.f kj2 t337 ((l0.take ((wrap64 ((l0.length : Int) - t336)) : Int).toNat).drop (t335 : Int).toNat)).bind fun t354 => (if t354 = true then (if t335 ≤ (wrap64 ((l1.length : Int) - t336)) then (if (wrap64 ((l1.length : Int) - t336)) ≤ (l1.length : Int) then ((decoupageref25_Same.f kj2 t340 ((l1.take ((wrap64 ((l1.length : Int) - t336)) : Int).toNat).drop (t335 : Int).toNat)).bind fun t359 => (some t359)) else (none)) else (none)) else (some false))) else (none)) else (none)) else (none)) else (some false)) = some r := H
    have A17 := Aside0.mk A170
    clear A170
    by_cases c18 : t349 = true
    ·subst c18
     have H1 : (if 0 ≤ t335 then (if t335 ≤ (wrap64 ((l0.length : Int) - t336)) then (if (wrap64 ((l0.length : Int) - t336)) ≤ (l0.length : Int) then ((decoupageref25_Same.f kj2 t337 ((l0.take ((wrap64 ((l0.length : Int) - t336)) : Int).toNat).drop (t335 : Int).toNat)).bind fun t354 => (if t354 = true then (if t335 ≤ (wrap64 ((l1.length : Int) - t336)) then (if (wrap64 ((l1.length : Int) - t336)) ≤ (l1.length : Int) then ((decoupageref25_Same.f kj2 t340 ((l1.take ((wrap64 ((l1.length : Int) - t336)) : Int).toNat).drop (t335 : Int).toNat)).bind fun t359 => (some t359)) else (none)) else (none)) else (some false))) else (none)) else (none)) else (none)) = some r := by rw [if_pos rfl] at H; exact H
     clear H
     have H := H1
     clear H1
     by_cases c19 : 0 ≤ t335
     ·rw [if_pos c19] at H
      have c19b0 := eq_true c19
      have c19b1 : decide (0 ≤ t335) = true := decide_eq_true c19
      clear c19
      by_cases c20 : t335 ≤ (wrap64 ((l0.length : Int) - t336))
      ·rw [if_pos c20] at H
       have c20b0 := eq_true c20
       have c20b1 : decide (t335 ≤ (wrap64 ((l0.length : Int) - t336))) = true := decide_eq_true c20
       clear c20
       by_cases c21 : (wrap64 ((l0.length : Int) - t336)) ≤ (l0.length : Int)
       ·rw [if_pos c21] at H
        have c21b0 := eq_true c21
        have c21b1 : decide ((wrap64 ((l0.length : Int) - t336)) ≤ (l0.length : Int)) = true := decide_eq_true c21
        clear c21
        obtain ⟨y350, hy350⟩ : ∃ y_ : List (S39), y_ = ((l0.take ((wrap64 ((l0.length : Int) - t336)) : Int).toNat).drop (t335 : Int).toNat) := ⟨_, rfl⟩
        replace H : ((decoupageref25_Same.f kj2 t337 y350).bind fun t354 => (if t354 = true then (if t335 ≤ (wrap64 ((l1.length : Int) - t336)) then (if (wrap64 ((l1.length : Int) - t336)) ≤ (l1.length : Int) then ((decoupageref25_Same.f kj2 t340 ((l1.take ((wrap64 ((l1.length : Int) - t336)) : Int).toNat).drop (t335 : Int).toNat)).bind fun t359 => (some t359)) else (none)) else (none)) else (some false))) = some r := by first | (rw [hy350]; with_reducible exact H) | (have H2_ := (Option.bind_some _ _).symm.trans H; rw [hy350]; with_reducible exact H2_) | (have H2_ := (Option.bind_some _ _).symm.trans H; with_reducible exact H2_) | with_reducible exact H | (rw [hy350]; exact H) | exact H
        have Ny350 := Aside0.mk hy350
        clear hy350
        replace H := Option.bind_eq_some_iff.mp H
        obtain ⟨t354, A220, H⟩ := H
        replace H : (if t354 = true then (if t335 ≤ (wrap64 ((l1.length : Int) - t336)) then (if (wrap64 ((l1.length : Int) - t336)) ≤ (l1.length : Int) then ((decoupageref25_Same.f kj2 t340 ((l1.take ((wrap64 ((l1.length : Int) - t336)) : Int).toNat).drop (t335 : Int).toNat)).bind fun t359 => (some t359)) else (none)) else (none)) else (some false)) = some r := H
        have A22 := Aside0.mk A220
        clear A220
        by_cases c23 : t354 = true
        ·subst c23
         have H1 : (if t335 ≤ (wrap64 ((l1.length : Int) - t336)) then (if (wrap64 ((l1.length : Int) - t336)) ≤ (l1.length : Int) then ((decoupageref25_Same.f kj2 t340 ((l1.take ((wrap64 ((l1.length : Int) - t336)) : Int).toNat).drop (t335 : Int).toNat)).bind fun t359 => (some t359)) else (none)) else (none)) = some r := by rw [if_pos rfl] at H; exact H
         clear H
         have H := H1
         clear H1
         have c24b0 := eq_true (of_decide_eq_true (by first | (with_reducible assumption) | assumption) : 0 ≤ t335)
         by_cases c25 : t335 ≤ (wrap64 ((l1.length : Int) - t336))
         ·rw [if_pos c25] at H
          have c25b0 := eq_true c25
          have c25b1 : decide (t335 ≤ (wrap64 ((l1.length : Int) - t336))) = true := decide_eq_true c25
          clear c25
          by_cases c26 : (wrap64 ((l1.length : Int) - t336)) ≤ (l1.length : Int)
          ·rw [if_pos c26] at H
           have c26b0 := eq_true c26
           have c26b1 : decide ((wrap64 ((l1.length : Int) - t336)) ≤ (l1.length : Int)) = true := decide_eq_true c26
           clear c26
           obtain ⟨y355, hy355⟩ : ∃ y_ : List (S39), y_ = ((l1.take ((wrap64 ((l1.length : Int) - t336)) : Int).toNat).drop (t335 : Int).toNat) := ⟨_, rfl⟩
           replace H : ((decoupageref25_Same.f kj2 t340 y355).bind fun t359 => (some t359)) = some r := by first | (rw [hy355]; with_reducible exact H) | (have H2_ := (Option.bind_some _ _).symm.trans H; rw [hy355]; with_reducible exact H2_) | (have H2_ := (Option.bind_some _ _).symm.trans H; with_reducible exact H2_) | with_reducible exact H | (rw [hy355]; exact H) | exact H
           have Ny355 := Aside0.mk hy355
           clear hy355
           replace H := Option.bind_eq_some_iff.mp H
           obtain ⟨t359, A270, H⟩ := H
           replace H : (some t359) = some r := H
           have A27 := Aside0.mk A270
           clear A270
           obtain rfl := Option.some.inj H
           go_wp2_with (first | ((with_reducible refine gate_callee (f := 15) rfl ?_); refine goesL_ (some 25) rfl rfl Try.func15 (by kernel_rfl) rfl #[.slice A0 l0.length c0, .slice A1 l1.length c1] rfl (by (try simp only [List.map_toArray, List.map_cons, List.map_nil]); first | done | rfl | (simp only [List.length_drop, List.length_take]; rfl)) ?_; (with_reducible refine (decoupageref29_Ends.calls kj2 _ _ l0 _ _ l1 t335 t336 _ ?side1 ?side2 ?side3 ?side4 A13.out).mono ?_); (case side1 => repeat (first | exact (Kd.C_below HR0.out HB.out) | (with_reducible refine Kd.C_alloc ?_ _) | (with_reducible refine Kd.C_drewN ?_ _) | (with_reducible refine Kd.C_drew ?_))); (case side2 => exact HC0.out); (case side3 => repeat (first | exact (Kd.C_below HR1.out HB.out) | (with_reducible refine Kd.C_alloc ?_ _) | (with_reducible refine Kd.C_drewN ?_ _) | (with_reducible refine Kd.C_drew ?_))); (case side4 => exact HC1.out); rintro e w28 ⟨rfl, hb⟩; refine ⟨_, rfl, ?_⟩; have n0_ := Aside0.mk (below_step (by repeat (first | (with_reducible first | exact HB.out | apply below_alloc | apply pw_below_drewN | apply below_drew1) | exact HB.out)) hb); clear HB; have HB := n0_; clear n0_; (try clear hb); (try clear hb2); (try clear hk); (try clear hi)) | ((with_reducible refine gate_callee (f := 16) rfl ?_); refine goesL_ (some 31) rfl rfl Try.func16 (by kernel_rfl) rfl #[.slice A0 l0.length c0, .slice A1 l1.length c1] rfl (by (try simp only [List.map_toArray, List.map_cons, List.map_nil]); first | done | rfl | (simp only [List.length_drop, List.length_take]; rfl)) ?_; (with_reducible refine (harm_Parts.calls kj2 (fun k_ => k_ < w.heap.size) _ _ l0 (fun k_ => k_ < w.heap.size) _ _ l1 t337 t340 _ ?side1 ?side2 A14.out).mono ?_); (case side1 => exact Kd.V_mk HC0.out (Kd.F_below (Kd.C_F k39_heap HR0.out) (by repeat (first | (with_reducible first | exact HB.out | apply below_alloc | apply pw_below_drewN | apply below_drew1) | exact HB.out)))); (case side2 => exact Kd.V_mk HC1.out (Kd.F_below (Kd.C_F k39_heap HR1.out) (by repeat (first | (with_reducible first | exact HB.out | apply below_alloc | apply pw_below_drewN | apply below_drew1) | exact HB.out)))); rintro e w29 ⟨v338, v341, rfl, ho0, ho1, hb⟩; refine ⟨_, rfl, ?_⟩; have n0_ := Aside0.mk (Kd.R_lower (Kd.R_mono (ok' := fun k_ => some k_ ≠ (v341 : Value).ownBlock) ho0 (fun _ hk_ => hk_.2)) (below_size (by repeat (first | (with_reducible first | exact HB.out | apply below_alloc | apply pw_below_drewN | apply below_drew1) | exact HB.out)))); have n1_ := Aside0.mk (Kd.R_lower (Kd.R_mono (ok' := fun k_ => some k_ ≠ (v338 : Value).ownBlock) ho1 (fun _ hk_ => hk_.2)) (below_size (by repeat (first | (with_reducible first | exact HB.out | apply below_alloc | apply pw_below_drewN | apply below_drew1) | exact HB.out)))); have n2_ := Aside0.mk (below_step (by repeat (first | (with_reducible first | exact HB.out | apply below_alloc | apply pw_below_drewN | apply below_drew1) | exact HB.out)) hb); clear HB; have HO339 := n0_; have HO342 := n1_; have HB := n2_; clear n0_ n1_ n2_; (try clear hb); (try clear hb2); (try clear hk); (try clear hi); (try clear ho0); (try clear ho1)) | ((with_reducible refine gate_callee (f := 18) rfl ?_); refine goesL_ (some 36) rfl rfl Try.func18 (by kernel_rfl) rfl #[.slice A0 l0.length c0, .slice A1 l1.length c1] rfl (by (try simp only [List.map_toArray, List.map_cons, List.map_nil]); first | done | rfl | (simp only [List.length_drop, List.length_take]; rfl)) ?_; (with_reducible refine (harm_Of.calls kj2 _ _ l0 _ _ l1 t343 _ ?side1 ?side2 ?side3 ?side4 A15.out).mono ?_); (case side1 => repeat (first | exact (Kd.C_below HR0.out HB.out) | (with_reducible refine Kd.C_alloc ?_ _) | (with_reducible refine Kd.C_drewN ?_ _) | (with_reducible refine Kd.C_drew ?_))); (case side2 => exact HC0.out); (case side3 => repeat (first | exact (Kd.C_below HR1.out HB.out) | (with_reducible refine Kd.C_alloc ?_ _) | (with_reducible refine Kd.C_drewN ?_ _) | (with_reducible refine Kd.C_drew ?_))); (case side4 => exact HC1.out); rintro e w30 ⟨v344, rfl, ho0, hb⟩; refine ⟨_, rfl, ?_⟩; have n0_ := Aside0.mk (Kd.R_below (by (with_reducible repeat (first | apply Kd.R_alloc | apply Kd.R_drewN | apply Kd.R_drew)); exact HO339.out) hb); have n1_ := Aside0.mk (Kd.R_below (by (with_reducible repeat (first | apply Kd.R_alloc | apply Kd.R_drewN | apply Kd.R_drew)); exact HO342.out) hb); have n2_ := Aside0.mk (Kd.R_lower ho0 (below_size (by repeat (first | (with_reducible first | exact HB.out | apply below_alloc | apply pw_below_drewN | apply below_drew1) | exact HB.out)))); have n3_ := Aside0.mk (below_step (by repeat (first | (with_reducible first | exact HB.out | apply below_alloc | apply pw_below_drewN | apply below_drew1) | exact HB.out)) hb); clear HO339; clear HO342; clear HB; have HO339 := n0_; have HO342 := n1_; have HO345 := n2_; have HB := n3_; clear n0_ n1_ n2_ n3_; (try clear hb); (try clear hb2); (try clear hk); (try clear hi); (try clear ho0)) | ((with_reducible refine gate_callee (f := 19) rfl ?_); refine goesL_ (some 39) rfl rfl Try.func19 (by kernel_rfl) rfl #[.slice A0 l0.length c0, .slice A1 l1.length c1] rfl (by (try simp only [List.map_toArray, List.map_cons, List.map_nil]); first | done | rfl | (simp only [List.length_drop, List.length_take]; rfl)) ?_; (with_reducible refine (decoupageref29_Of.calls kj2 _ _ l0 _ _ l1 t346 _ ?side1 ?side2 ?side3 ?side4 A16.out).mono ?_); (case side1 => repeat (first | exact (Kd.C_below HR0.out HB.out) | (with_reducible refine Kd.C_alloc ?_ _) | (with_reducible refine Kd.C_drewN ?_ _) | (with_reducible refine Kd.C_drew ?_))); (case side2 => exact HC0.out); (case side3 => repeat (first | exact (Kd.C_below HR1.out HB.out) | (with_reducible refine Kd.C_alloc ?_ _) | (with_reducible refine Kd.C_drewN ?_ _) | (with_reducible refine Kd.C_drew ?_))); (case side4 => exact HC1.out); rintro e w31 ⟨v347, rfl, ho0, hb⟩; refine ⟨_, rfl, ?_⟩; have n0_ := Aside0.mk (Kd.R_below (by (with_reducible repeat (first | apply Kd.R_alloc | apply Kd.R_drewN | apply Kd.R_drew)); exact HO339.out) hb); have n1_ := Aside0.mk (Kd.R_below (by (with_reducible repeat (first | apply Kd.R_alloc | apply Kd.R_drewN | apply Kd.R_drew)); exact HO342.out) hb); have n2_ := Aside0.mk (Kd.R_elder' (by (with_reducible repeat (first | apply Kd.R_alloc | apply Kd.R_drewN | apply Kd.R_drew)); exact HO345.out) (Kd.R_base ho0) hb); have n3_ := Aside0.mk (Kd.R_lower (Kd.R_new' ho0 (Kd.R_lt (by (with_reducible repeat (first | apply Kd.R_alloc | apply Kd.R_drewN | apply Kd.R_drew)); exact HO345.out))) (below_size (by repeat (first | (with_reducible first | exact HB.out | apply below_alloc | apply pw_below_drewN | apply below_drew1) | exact HB.out)))); have n4_ := Aside0.mk (below_step (by repeat (first | (with_reducible first | exact HB.out | apply below_alloc | apply pw_below_drewN | apply below_drew1) | exact HB.out)) hb); clear HO339; clear HO342; clear HO345; clear HB; have HO339 := n0_; have HO342 := n1_; have HO345 := n2_; have HO348 := n3_; have HB := n4_; clear n0_ n1_ n2_ n3_ n4_; (try clear hb); (try clear hb2); (try clear hk); (try clear hi); (try clear ho0); obtain ⟨Ao32, co32, eo32⟩ := Kd.R_slice HO345.out; subst eo32; obtain ⟨Ao33, co33, eo33⟩ := Kd.R_slice HO348.out; subst eo33) | ((with_reducible refine gate_callee (f := 17) rfl ?_); refine goesL_ (some 40) rfl rfl Try.func17 (by kernel_rfl) rfl #[.slice Ao32 t343.length co32, .slice Ao33 t346.length co33] rfl (by (try simp only [List.map_toArray, List.map_cons, List.map_nil]); first | done | rfl | (simp only [List.length_drop, List.length_take]; rfl)) ?_; (with_reducible refine (decoupageref02_Same.calls kj2 _ _ t343 _ _ t346 true _ ?side1 ?side2 ?side3 ?side4 A17.out).mono ?_); (case side1 => repeat (first | exact (Kd.R_reads' HO345.out).2.2 | (with_reducible refine Kd.C_alloc ?_ _) | (with_reducible refine Kd.C_drewN ?_ _) | (with_reducible refine Kd.C_drew ?_))); (case side2 => exact (Kd.R_reads' HO345.out).2.1); (case side3 => repeat (first | exact (Kd.R_reads' HO348.out).2.2 | (with_reducible refine Kd.C_alloc ?_ _) | (with_reducible refine Kd.C_drewN ?_ _) | (with_reducible refine Kd.C_drew ?_))); (case side4 => exact (Kd.R_reads' HO348.out).2.1); rintro e w' ⟨rfl, ⟨nd, rfl⟩⟩; refine ⟨_, rfl, ?_⟩; have q34 : ((wrap64 ((l0.length : Int) - t336)) : Int) ≤ ((l0.length : Int) : Int) := of_decide_eq_true (by first | (with_reducible assumption) | assumption); obtain ⟨i034, hi034, _, hsz34, _⟩ := info_parts info39; have hroom34 : l0.length ≤ c0 := HC0.out; have hC34 : Kd.C k39 _ A0 l0.length l0 := HR0.out; have ql34 : (t335 : Int) ≤ ((wrap64 ((l0.length : Int) - t336)) : Int) := of_decide_eq_true (by first | (with_reducible assumption) | assumption); have q034 : (0 : Int) ≤ (t335 : Int) := of_decide_eq_true (by first | (with_reducible assumption) | assumption); have hcut34 := cut_mid (P := Try.prog) 22 39 .i64 .i64 Try.underlying22 hi034 15 hsz34 A0 l0.length c0 t335 (wrap64 ((l0.length : Int) - t336)) q034 ql34 q34 hroom34; have hr34 := Kd.C_mid (lo := (t335 : Int).toNat) (hi := ((wrap64 ((l0.length : Int) - t336)) : Int).toNat) (c := c0) hC34 (by omega) (by omega) hroom34; obtain ⟨A34, hA34⟩ : ∃ A9_, A9_ = (if c0 = (t335 : Int).toNat then A0 else (A0 : Option Addr).map (·.add ((t335 : Int).toNat * 15))) := ⟨_, rfl⟩; obtain ⟨c34, hc34⟩ : ∃ c9_, c9_ = c0 - (t335 : Int).toNat := ⟨_, rfl⟩; have hy34 : y350.length = ((wrap64 ((l0.length : Int) - t336)) : Int).toNat - (t335 : Int).toNat := (by rw [Ny350.out, List.length_drop, List.length_take] <;> omega); rw [show ((l0).take ((wrap64 ((l0.length : Int) - t336)) : Int).toNat).drop (t335 : Int).toNat = y350 from Ny350.out.symm] at hr34; replace hr34 : Kd.C k39 _ A34 y350.length y350 := (by rw [hA34]; exact hr34); rw [← hy34, ← hA34, ← hc34] at hcut34; have HR353 := Aside0.mk hr34; have HC353 := Aside0.mk (show y350.length ≤ c34 from by rw [hy34, hc34]; exact Nat.sub_le_sub_right (Nat.le_trans (by omega) hroom34) _); clear hr34 hC34 hroom34 hi034 hsz34 hc34; have KY34 := Aside0.mk hy34; have KA34 := Aside0.mk hA34; clear hy34 hA34; replace q34 := eq_true q34; obtain ⟨Ao35, co35, eo35⟩ := Kd.R_slice HO339.out; subst eo35) | (go_at_call 20; (with_reducible refine (decoupageref25_Same.calls kj2 _ _ t337 _ _ y350 true _ ?side1 ?side2 ?side3 ?side4 A22.out).mono ?_); (case side1 => repeat (first | exact (Kd.R_reads' HO339.out).2.2 | (with_reducible refine Kd.C_alloc ?_ _) | (with_reducible refine Kd.C_drewN ?_ _) | (with_reducible refine Kd.C_drew ?_))); (case side2 => exact (Kd.R_reads' HO339.out).2.1); (case side3 => repeat (first | exact (Kd.C_below HR353.out (by repeat (first | (with_reducible first | exact HB.out | apply below_alloc | apply pw_below_drewN | apply below_drew1) | exact HB.out))) | (with_reducible refine Kd.C_alloc ?_ _) | (with_reducible refine Kd.C_drewN ?_ _) | (with_reducible refine Kd.C_drew ?_))); (case side4 => exact HC353.out); rintro e w' ⟨rfl, ⟨nd, rfl⟩⟩; have q36 : ((wrap64 ((l1.length : Int) - t336)) : Int) ≤ ((l1.length : Int) : Int) := of_decide_eq_true (by first | (with_reducible assumption) | assumption); obtain ⟨i036, hi036, _, hsz36, _⟩ := info_parts info39; have hroom36 : l1.length ≤ c1 := HC1.out; have hC36 : Kd.C k39 _ A1 l1.length l1 := HR1.out; have ql36 : (t335 : Int) ≤ ((wrap64 ((l1.length : Int) - t336)) : Int) := of_decide_eq_true (by first | (with_reducible assumption) | assumption); have q036 : (0 : Int) ≤ (t335 : Int) := of_decide_eq_true (by first | (with_reducible assumption) | assumption); have hcut36 := cut_mid (P := Try.prog) 22 39 .i64 .i64 Try.underlying22 hi036 15 hsz36 A1 l1.length c1 t335 (wrap64 ((l1.length : Int) - t336)) q036 ql36 q36 hroom36; have hr36 := Kd.C_mid (lo := (t335 : Int).toNat) (hi := ((wrap64 ((l1.length : Int) - t336)) : Int).toNat) (c := c1) hC36 (by omega) (by omega) hroom36; obtain ⟨A36, hA36⟩ : ∃ A9_, A9_ = (if c1 = (t335 : Int).toNat then A1 else (A1 : Option Addr).map (·.add ((t335 : Int).toNat * 15))) := ⟨_, rfl⟩; obtain ⟨c36, hc36⟩ : ∃ c9_, c9_ = c1 - (t335 : Int).toNat := ⟨_, rfl⟩; have hy36 : y355.length = ((wrap64 ((l1.length : Int) - t336)) : Int).toNat - (t335 : Int).toNat := (by rw [Ny355.out, List.length_drop, List.length_take] <;> omega); rw [show ((l1).take ((wrap64 ((l1.length : Int) - t336)) : Int).toNat).drop (t335 : Int).toNat = y355 from Ny355.out.symm] at hr36; replace hr36 : Kd.C k39 _ A36 y355.length y355 := (by rw [hA36]; exact hr36); rw [← hy36, ← hA36, ← hc36] at hcut36; have HR358 := Aside0.mk hr36; have HC358 := Aside0.mk (show y355.length ≤ c36 from by rw [hy36, hc36]; exact Nat.sub_le_sub_right (Nat.le_trans (by omega) hroom36) _); clear hr36 hC36 hroom36 hi036 hsz36 hc36; have KY36 := Aside0.mk hy36; have KA36 := Aside0.mk hA36; clear hy36 hA36; replace q36 := eq_true q36; obtain ⟨Ao37, co37, eo37⟩ := Kd.R_slice HO342.out; subst eo37) | (go_at_call 20; (with_reducible refine (decoupageref25_Same.calls kj2 _ _ t340 _ _ y355 t359 _ ?side1 ?side2 ?side3 ?side4 A27.out).mono ?_); (case side1 => repeat (first | exact (Kd.R_reads' HO342.out).2.2 | (with_reducible refine Kd.C_alloc ?_ _) | (with_reducible refine Kd.C_drewN ?_ _) | (with_reducible refine Kd.C_drew ?_))); (case side2 => exact (Kd.R_reads' HO342.out).2.1); (case side3 => repeat (first | exact (Kd.C_below HR358.out (by repeat (first | (with_reducible first | exact HB.out | apply below_alloc | apply pw_below_drewN | apply below_drew1) | exact HB.out))) | (with_reducible refine Kd.C_alloc ?_ _) | (with_reducible refine Kd.C_drewN ?_ _) | (with_reducible refine Kd.C_drew ?_))); (case side4 => exact HC358.out); rintro e w' ⟨rfl, ⟨nd, rfl⟩⟩))
           go_ret
           exact ⟨by first | rfl | (simp [errW_none, errW_some] <;> rfl) | (simp [*, errW_none, errW_some] <;> rfl), by repeat (first | (with_reducible first | exact HB.out | apply below_alloc | apply pw_below_drewN | apply below_drew1) | exact HB.out)⟩
          ·rw [if_neg c26] at H
           exact absurd H (by simp)
         ·rw [if_neg c25] at H
          exact absurd H (by simp)
        ·replace c23 := Bool.eq_false_iff.mpr c23
         subst c23
         have H1 : (some false) = some r := by rw [if_neg (show ¬ (false = true) by decide)] at H; exact H
         clear H
         have H := H1
         clear H1
         obtain rfl := Option.some.inj H
         go_wp2_with (first | ((with_reducible refine gate_callee (f := 15) rfl ?_); refine goesL_ (some 25) rfl rfl Try.func15 (by kernel_rfl) rfl #[.slice A0 l0.length c0, .slice A1 l1.length c1] rfl (by (try simp only [List.map_toArray, List.map_cons, List.map_nil]); first | done | rfl | (simp only [List.length_drop, List.length_take]; rfl)) ?_; (with_reducible refine (decoupageref29_Ends.calls kj2 _ _ l0 _ _ l1 t335 t336 _ ?side1 ?side2 ?side3 ?side4 A13.out).mono ?_); (case side1 => repeat (first | exact (Kd.C_below HR0.out HB.out) | (with_reducible refine Kd.C_alloc ?_ _) | (with_reducible refine Kd.C_drewN ?_ _) | (with_reducible refine Kd.C_drew ?_))); (case side2 => exact HC0.out); (case side3 => repeat (first | exact (Kd.C_below HR1.out HB.out) | (with_reducible refine Kd.C_alloc ?_ _) | (with_reducible refine Kd.C_drewN ?_ _) | (with_reducible refine Kd.C_drew ?_))); (case side4 => exact HC1.out); rintro e w38 ⟨rfl, hb⟩; refine ⟨_, rfl, ?_⟩; have n0_ := Aside0.mk (below_step (by repeat (first | (with_reducible first | exact HB.out | apply below_alloc | apply pw_below_drewN | apply below_drew1) | exact HB.out)) hb); clear HB; have HB := n0_; clear n0_; (try clear hb); (try clear hb2); (try clear hk); (try clear hi)) | ((with_reducible refine gate_callee (f := 16) rfl ?_); refine goesL_ (some 31) rfl rfl Try.func16 (by kernel_rfl) rfl #[.slice A0 l0.length c0, .slice A1 l1.length c1] rfl (by (try simp only [List.map_toArray, List.map_cons, List.map_nil]); first | done | rfl | (simp only [List.length_drop, List.length_take]; rfl)) ?_; (with_reducible refine (harm_Parts.calls kj2 (fun k_ => k_ < w.heap.size) _ _ l0 (fun k_ => k_ < w.heap.size) _ _ l1 t337 t340 _ ?side1 ?side2 A14.out).mono ?_); (case side1 => exact Kd.V_mk HC0.out (Kd.F_below (Kd.C_F k39_heap HR0.out) (by repeat (first | (with_reducible first | exact HB.out | apply below_alloc | apply pw_below_drewN | apply below_drew1) | exact HB.out)))); (case side2 => exact Kd.V_mk HC1.out (Kd.F_below (Kd.C_F k39_heap HR1.out) (by repeat (first | (with_reducible first | exact HB.out | apply below_alloc | apply pw_below_drewN | apply below_drew1) | exact HB.out)))); rintro e w39 ⟨v338, v341, rfl, ho0, ho1, hb⟩; refine ⟨_, rfl, ?_⟩; have n0_ := Aside0.mk (Kd.R_lower (Kd.R_mono (ok' := fun k_ => some k_ ≠ (v341 : Value).ownBlock) ho0 (fun _ hk_ => hk_.2)) (below_size (by repeat (first | (with_reducible first | exact HB.out | apply below_alloc | apply pw_below_drewN | apply below_drew1) | exact HB.out)))); have n1_ := Aside0.mk (Kd.R_lower (Kd.R_mono (ok' := fun k_ => some k_ ≠ (v338 : Value).ownBlock) ho1 (fun _ hk_ => hk_.2)) (below_size (by repeat (first | (with_reducible first | exact HB.out | apply below_alloc | apply pw_below_drewN | apply below_drew1) | exact HB.out)))); have n2_ := Aside0.mk (below_step (by repeat (first | (with_reducible first | exact HB.out | apply below_alloc | apply pw_below_drewN | apply below_drew1) | exact HB.out)) hb); clear HB; have HO339 := n0_; have HO342 := n1_; have HB := n2_; clear n0_ n1_ n2_; (try clear hb); (try clear hb2); (try clear hk); (try clear hi); (try clear ho0); (try clear ho1)) | ((with_reducible refine gate_callee (f := 18) rfl ?_); refine goesL_ (some 36) rfl rfl Try.func18 (by kernel_rfl) rfl #[.slice A0 l0.length c0, .slice A1 l1.length c1] rfl (by (try simp only [List.map_toArray, List.map_cons, List.map_nil]); first | done | rfl | (simp only [List.length_drop, List.length_take]; rfl)) ?_; (with_reducible refine (harm_Of.calls kj2 _ _ l0 _ _ l1 t343 _ ?side1 ?side2 ?side3 ?side4 A15.out).mono ?_); (case side1 => repeat (first | exact (Kd.C_below HR0.out HB.out) | (with_reducible refine Kd.C_alloc ?_ _) | (with_reducible refine Kd.C_drewN ?_ _) | (with_reducible refine Kd.C_drew ?_))); (case side2 => exact HC0.out); (case side3 => repeat (first | exact (Kd.C_below HR1.out HB.out) | (with_reducible refine Kd.C_alloc ?_ _) | (with_reducible refine Kd.C_drewN ?_ _) | (with_reducible refine Kd.C_drew ?_))); (case side4 => exact HC1.out); rintro e w40 ⟨v344, rfl, ho0, hb⟩; refine ⟨_, rfl, ?_⟩; have n0_ := Aside0.mk (Kd.R_below (by (with_reducible repeat (first | apply Kd.R_alloc | apply Kd.R_drewN | apply Kd.R_drew)); exact HO339.out) hb); have n1_ := Aside0.mk (Kd.R_below (by (with_reducible repeat (first | apply Kd.R_alloc | apply Kd.R_drewN | apply Kd.R_drew)); exact HO342.out) hb); have n2_ := Aside0.mk (Kd.R_lower ho0 (below_size (by repeat (first | (with_reducible first | exact HB.out | apply below_alloc | apply pw_below_drewN | apply below_drew1) | exact HB.out)))); have n3_ := Aside0.mk (below_step (by repeat (first | (with_reducible first | exact HB.out | apply below_alloc | apply pw_below_drewN | apply below_drew1) | exact HB.out)) hb); clear HO339; clear HO342; clear HB; have HO339 := n0_; have HO342 := n1_; have HO345 := n2_; have HB := n3_; clear n0_ n1_ n2_ n3_; (try clear hb); (try clear hb2); (try clear hk); (try clear hi); (try clear ho0)) | ((with_reducible refine gate_callee (f := 19) rfl ?_); refine goesL_ (some 39) rfl rfl Try.func19 (by kernel_rfl) rfl #[.slice A0 l0.length c0, .slice A1 l1.length c1] rfl (by (try simp only [List.map_toArray, List.map_cons, List.map_nil]); first | done | rfl | (simp only [List.length_drop, List.length_take]; rfl)) ?_; (with_reducible refine (decoupageref29_Of.calls kj2 _ _ l0 _ _ l1 t346 _ ?side1 ?side2 ?side3 ?side4 A16.out).mono ?_); (case side1 => repeat (first | exact (Kd.C_below HR0.out HB.out) | (with_reducible refine Kd.C_alloc ?_ _) | (with_reducible refine Kd.C_drewN ?_ _) | (with_reducible refine Kd.C_drew ?_))); (case side2 => exact HC0.out); (case side3 => repeat (first | exact (Kd.C_below HR1.out HB.out) | (with_reducible refine Kd.C_alloc ?_ _) | (with_reducible refine Kd.C_drewN ?_ _) | (with_reducible refine Kd.C_drew ?_))); (case side4 => exact HC1.out); rintro e w41 ⟨v347, rfl, ho0, hb⟩; refine ⟨_, rfl, ?_⟩; have n0_ := Aside0.mk (Kd.R_below (by (with_reducible repeat (first | apply Kd.R_alloc | apply Kd.R_drewN | apply Kd.R_drew)); exact HO339.out) hb); have n1_ := Aside0.mk (Kd.R_below (by (with_reducible repeat (first | apply Kd.R_alloc | apply Kd.R_drewN | apply Kd.R_drew)); exact HO342.out) hb); have n2_ := Aside0.mk (Kd.R_elder' (by (with_reducible repeat (first | apply Kd.R_alloc | apply Kd.R_drewN | apply Kd.R_drew)); exact HO345.out) (Kd.R_base ho0) hb); have n3_ := Aside0.mk (Kd.R_lower (Kd.R_new' ho0 (Kd.R_lt (by (with_reducible repeat (first | apply Kd.R_alloc | apply Kd.R_drewN | apply Kd.R_drew)); exact HO345.out))) (below_size (by repeat (first | (with_reducible first | exact HB.out | apply below_alloc | apply pw_below_drewN | apply below_drew1) | exact HB.out)))); have n4_ := Aside0.mk (below_step (by repeat (first | (with_reducible first | exact HB.out | apply below_alloc | apply pw_below_drewN | apply below_drew1) | exact HB.out)) hb); clear HO339; clear HO342; clear HO345; clear HB; have HO339 := n0_; have HO342 := n1_; have HO345 := n2_; have HO348 := n3_; have HB := n4_; clear n0_ n1_ n2_ n3_ n4_; (try clear hb); (try clear hb2); (try clear hk); (try clear hi); (try clear ho0); obtain ⟨Ao42, co42, eo42⟩ := Kd.R_slice HO345.out; subst eo42; obtain ⟨Ao43, co43, eo43⟩ := Kd.R_slice HO348.out; subst eo43) | ((with_reducible refine gate_callee (f := 17) rfl ?_); refine goesL_ (some 40) rfl rfl Try.func17 (by kernel_rfl) rfl #[.slice Ao42 t343.length co42, .slice Ao43 t346.length co43] rfl (by (try simp only [List.map_toArray, List.map_cons, List.map_nil]); first | done | rfl | (simp only [List.length_drop, List.length_take]; rfl)) ?_; (with_reducible refine (decoupageref02_Same.calls kj2 _ _ t343 _ _ t346 true _ ?side1 ?side2 ?side3 ?side4 A17.out).mono ?_); (case side1 => repeat (first | exact (Kd.R_reads' HO345.out).2.2 | (with_reducible refine Kd.C_alloc ?_ _) | (with_reducible refine Kd.C_drewN ?_ _) | (with_reducible refine Kd.C_drew ?_))); (case side2 => exact (Kd.R_reads' HO345.out).2.1); (case side3 => repeat (first | exact (Kd.R_reads' HO348.out).2.2 | (with_reducible refine Kd.C_alloc ?_ _) | (with_reducible refine Kd.C_drewN ?_ _) | (with_reducible refine Kd.C_drew ?_))); (case side4 => exact (Kd.R_reads' HO348.out).2.1); rintro e w' ⟨rfl, ⟨nd, rfl⟩⟩; refine ⟨_, rfl, ?_⟩; have q44 : ((wrap64 ((l0.length : Int) - t336)) : Int) ≤ ((l0.length : Int) : Int) := of_decide_eq_true (by first | (with_reducible assumption) | assumption); obtain ⟨i044, hi044, _, hsz44, _⟩ := info_parts info39; have hroom44 : l0.length ≤ c0 := HC0.out; have hC44 : Kd.C k39 _ A0 l0.length l0 := HR0.out; have ql44 : (t335 : Int) ≤ ((wrap64 ((l0.length : Int) - t336)) : Int) := of_decide_eq_true (by first | (with_reducible assumption) | assumption); have q044 : (0 : Int) ≤ (t335 : Int) := of_decide_eq_true (by first | (with_reducible assumption) | assumption); have hcut44 := cut_mid (P := Try.prog) 22 39 .i64 .i64 Try.underlying22 hi044 15 hsz44 A0 l0.length c0 t335 (wrap64 ((l0.length : Int) - t336)) q044 ql44 q44 hroom44; have hr44 := Kd.C_mid (lo := (t335 : Int).toNat) (hi := ((wrap64 ((l0.length : Int) - t336)) : Int).toNat) (c := c0) hC44 (by omega) (by omega) hroom44; obtain ⟨A44, hA44⟩ : ∃ A9_, A9_ = (if c0 = (t335 : Int).toNat then A0 else (A0 : Option Addr).map (·.add ((t335 : Int).toNat * 15))) := ⟨_, rfl⟩; obtain ⟨c44, hc44⟩ : ∃ c9_, c9_ = c0 - (t335 : Int).toNat := ⟨_, rfl⟩; have hy44 : y350.length = ((wrap64 ((l0.length : Int) - t336)) : Int).toNat - (t335 : Int).toNat := (by rw [Ny350.out, List.length_drop, List.length_take] <;> omega); rw [show ((l0).take ((wrap64 ((l0.length : Int) - t336)) : Int).toNat).drop (t335 : Int).toNat = y350 from Ny350.out.symm] at hr44; replace hr44 : Kd.C k39 _ A44 y350.length y350 := (by rw [hA44]; exact hr44); rw [← hy44, ← hA44, ← hc44] at hcut44; have HR353 := Aside0.mk hr44; have HC353 := Aside0.mk (show y350.length ≤ c44 from by rw [hy44, hc44]; exact Nat.sub_le_sub_right (Nat.le_trans (by omega) hroom44) _); clear hr44 hC44 hroom44 hi044 hsz44 hc44; have KY44 := Aside0.mk hy44; have KA44 := Aside0.mk hA44; clear hy44 hA44; replace q44 := eq_true q44; obtain ⟨Ao45, co45, eo45⟩ := Kd.R_slice HO339.out; subst eo45) | (go_at_call 20; (with_reducible refine (decoupageref25_Same.calls kj2 _ _ t337 _ _ y350 false _ ?side1 ?side2 ?side3 ?side4 A22.out).mono ?_); (case side1 => repeat (first | exact (Kd.R_reads' HO339.out).2.2 | (with_reducible refine Kd.C_alloc ?_ _) | (with_reducible refine Kd.C_drewN ?_ _) | (with_reducible refine Kd.C_drew ?_))); (case side2 => exact (Kd.R_reads' HO339.out).2.1); (case side3 => repeat (first | exact (Kd.C_below HR353.out (by repeat (first | (with_reducible first | exact HB.out | apply below_alloc | apply pw_below_drewN | apply below_drew1) | exact HB.out))) | (with_reducible refine Kd.C_alloc ?_ _) | (with_reducible refine Kd.C_drewN ?_ _) | (with_reducible refine Kd.C_drew ?_))); (case side4 => exact HC353.out); rintro e w' ⟨rfl, ⟨nd, rfl⟩⟩))
         go_ret
         exact ⟨by first | rfl | (simp [errW_none, errW_some] <;> rfl) | (simp [*, errW_none, errW_some] <;> rfl), by repeat (first | (with_reducible first | exact HB.out | apply below_alloc | apply pw_below_drewN | apply below_drew1) | exact HB.out)⟩
       ·rw [if_neg c21] at H
        exact absurd H (by simp)
      ·rw [if_neg c20] at H
       exact absurd H (by simp)
     ·rw [if_neg c19] at H
      exact absurd H (by simp)
    ·replace c18 := Bool.eq_false_iff.mpr c18
     subst c18
     have H1 : (some false) = some r := by rw [if_neg (show ¬ (false = true) by decide)] at H; exact H
     clear H
     have H := H1
     clear H1
     obtain rfl := Option.some.inj H
     go_wp2_with (first | ((with_reducible refine gate_callee (f := 15) rfl ?_); refine goesL_ (some 25) rfl rfl Try.func15 (by kernel_rfl) rfl #[.slice A0 l0.length c0, .slice A1 l1.length c1] rfl (by (try simp only [List.map_toArray, List.map_cons, List.map_nil]); first | done | rfl | (simp only [List.length_drop, List.length_take]; rfl)) ?_; (with_reducible refine (decoupageref29_Ends.calls kj2 _ _ l0 _ _ l1 t335 t336 _ ?side1 ?side2 ?side3 ?side4 A13.out).mono ?_); (case side1 => repeat (first | exact (Kd.C_below HR0.out HB.out) | (with_reducible refine Kd.C_alloc ?_ _) | (with_reducible refine Kd.C_drewN ?_ _) | (with_reducible refine Kd.C_drew ?_))); (case side2 => exact HC0.out); (case side3 => repeat (first | exact (Kd.C_below HR1.out HB.out) | (with_reducible refine Kd.C_alloc ?_ _) | (with_reducible refine Kd.C_drewN ?_ _) | (with_reducible refine Kd.C_drew ?_))); (case side4 => exact HC1.out); rintro e w46 ⟨rfl, hb⟩; refine ⟨_, rfl, ?_⟩; have n0_ := Aside0.mk (below_step (by repeat (first | (with_reducible first | exact HB.out | apply below_alloc | apply pw_below_drewN | apply below_drew1) | exact HB.out)) hb); clear HB; have HB := n0_; clear n0_; (try clear hb); (try clear hb2); (try clear hk); (try clear hi)) | ((with_reducible refine gate_callee (f := 16) rfl ?_); refine goesL_ (some 31) rfl rfl Try.func16 (by kernel_rfl) rfl #[.slice A0 l0.length c0, .slice A1 l1.length c1] rfl (by (try simp only [List.map_toArray, List.map_cons, List.map_nil]); first | done | rfl | (simp only [List.length_drop, List.length_take]; rfl)) ?_; (with_reducible refine (harm_Parts.calls kj2 (fun k_ => k_ < w.heap.size) _ _ l0 (fun k_ => k_ < w.heap.size) _ _ l1 t337 t340 _ ?side1 ?side2 A14.out).mono ?_); (case side1 => exact Kd.V_mk HC0.out (Kd.F_below (Kd.C_F k39_heap HR0.out) (by repeat (first | (with_reducible first | exact HB.out | apply below_alloc | apply pw_below_drewN | apply below_drew1) | exact HB.out)))); (case side2 => exact Kd.V_mk HC1.out (Kd.F_below (Kd.C_F k39_heap HR1.out) (by repeat (first | (with_reducible first | exact HB.out | apply below_alloc | apply pw_below_drewN | apply below_drew1) | exact HB.out)))); rintro e w47 ⟨v338, v341, rfl, ho0, ho1, hb⟩; refine ⟨_, rfl, ?_⟩; have n0_ := Aside0.mk (Kd.R_lower (Kd.R_mono (ok' := fun k_ => some k_ ≠ (v341 : Value).ownBlock) ho0 (fun _ hk_ => hk_.2)) (below_size (by repeat (first | (with_reducible first | exact HB.out | apply below_alloc | apply pw_below_drewN | apply below_drew1) | exact HB.out)))); have n1_ := Aside0.mk (Kd.R_lower (Kd.R_mono (ok' := fun k_ => some k_ ≠ (v338 : Value).ownBlock) ho1 (fun _ hk_ => hk_.2)) (below_size (by repeat (first | (with_reducible first | exact HB.out | apply below_alloc | apply pw_below_drewN | apply below_drew1) | exact HB.out)))); have n2_ := Aside0.mk (below_step (by repeat (first | (with_reducible first | exact HB.out | apply below_alloc | apply pw_below_drewN | apply below_drew1) | exact HB.out)) hb); clear HB; have HO339 := n0_; have HO342 := n1_; have HB := n2_; clear n0_ n1_ n2_; (try clear hb); (try clear hb2); (try clear hk); (try clear hi); (try clear ho0); (try clear ho1)) | ((with_reducible refine gate_callee (f := 18) rfl ?_); refine goesL_ (some 36) rfl rfl Try.func18 (by kernel_rfl) rfl #[.slice A0 l0.length c0, .slice A1 l1.length c1] rfl (by (try simp only [List.map_toArray, List.map_cons, List.map_nil]); first | done | rfl | (simp only [List.length_drop, List.length_take]; rfl)) ?_; (with_reducible refine (harm_Of.calls kj2 _ _ l0 _ _ l1 t343 _ ?side1 ?side2 ?side3 ?side4 A15.out).mono ?_); (case side1 => repeat (first | exact (Kd.C_below HR0.out HB.out) | (with_reducible refine Kd.C_alloc ?_ _) | (with_reducible refine Kd.C_drewN ?_ _) | (with_reducible refine Kd.C_drew ?_))); (case side2 => exact HC0.out); (case side3 => repeat (first | exact (Kd.C_below HR1.out HB.out) | (with_reducible refine Kd.C_alloc ?_ _) | (with_reducible refine Kd.C_drewN ?_ _) | (with_reducible refine Kd.C_drew ?_))); (case side4 => exact HC1.out); rintro e w48 ⟨v344, rfl, ho0, hb⟩; refine ⟨_, rfl, ?_⟩; have n0_ := Aside0.mk (Kd.R_below (by (with_reducible repeat (first | apply Kd.R_alloc | apply Kd.R_drewN | apply Kd.R_drew)); exact HO339.out) hb); have n1_ := Aside0.mk (Kd.R_below (by (with_reducible repeat (first | apply Kd.R_alloc | apply Kd.R_drewN | apply Kd.R_drew)); exact HO342.out) hb); have n2_ := Aside0.mk (Kd.R_lower ho0 (below_size (by repeat (first | (with_reducible first | exact HB.out | apply below_alloc | apply pw_below_drewN | apply below_drew1) | exact HB.out)))); have n3_ := Aside0.mk (below_step (by repeat (first | (with_reducible first | exact HB.out | apply below_alloc | apply pw_below_drewN | apply below_drew1) | exact HB.out)) hb); clear HO339; clear HO342; clear HB; have HO339 := n0_; have HO342 := n1_; have HO345 := n2_; have HB := n3_; clear n0_ n1_ n2_ n3_; (try clear hb); (try clear hb2); (try clear hk); (try clear hi); (try clear ho0)) | ((with_reducible refine gate_callee (f := 19) rfl ?_); refine goesL_ (some 39) rfl rfl Try.func19 (by kernel_rfl) rfl #[.slice A0 l0.length c0, .slice A1 l1.length c1] rfl (by (try simp only [List.map_toArray, List.map_cons, List.map_nil]); first | done | rfl | (simp only [List.length_drop, List.length_take]; rfl)) ?_; (with_reducible refine (decoupageref29_Of.calls kj2 _ _ l0 _ _ l1 t346 _ ?side1 ?side2 ?side3 ?side4 A16.out).mono ?_); (case side1 => repeat (first | exact (Kd.C_below HR0.out HB.out) | (with_reducible refine Kd.C_alloc ?_ _) | (with_reducible refine Kd.C_drewN ?_ _) | (with_reducible refine Kd.C_drew ?_))); (case side2 => exact HC0.out); (case side3 => repeat (first | exact (Kd.C_below HR1.out HB.out) | (with_reducible refine Kd.C_alloc ?_ _) | (with_reducible refine Kd.C_drewN ?_ _) | (with_reducible refine Kd.C_drew ?_))); (case side4 => exact HC1.out); rintro e w49 ⟨v347, rfl, ho0, hb⟩; refine ⟨_, rfl, ?_⟩; have n0_ := Aside0.mk (Kd.R_below (by (with_reducible repeat (first | apply Kd.R_alloc | apply Kd.R_drewN | apply Kd.R_drew)); exact HO339.out) hb); have n1_ := Aside0.mk (Kd.R_below (by (with_reducible repeat (first | apply Kd.R_alloc | apply Kd.R_drewN | apply Kd.R_drew)); exact HO342.out) hb); have n2_ := Aside0.mk (Kd.R_elder' (by (with_reducible repeat (first | apply Kd.R_alloc | apply Kd.R_drewN | apply Kd.R_drew)); exact HO345.out) (Kd.R_base ho0) hb); have n3_ := Aside0.mk (Kd.R_lower (Kd.R_new' ho0 (Kd.R_lt (by (with_reducible repeat (first | apply Kd.R_alloc | apply Kd.R_drewN | apply Kd.R_drew)); exact HO345.out))) (below_size (by repeat (first | (with_reducible first | exact HB.out | apply below_alloc | apply pw_below_drewN | apply below_drew1) | exact HB.out)))); have n4_ := Aside0.mk (below_step (by repeat (first | (with_reducible first | exact HB.out | apply below_alloc | apply pw_below_drewN | apply below_drew1) | exact HB.out)) hb); clear HO339; clear HO342; clear HO345; clear HB; have HO339 := n0_; have HO342 := n1_; have HO345 := n2_; have HO348 := n3_; have HB := n4_; clear n0_ n1_ n2_ n3_ n4_; (try clear hb); (try clear hb2); (try clear hk); (try clear hi); (try clear ho0); obtain ⟨Ao50, co50, eo50⟩ := Kd.R_slice HO345.out; subst eo50; obtain ⟨Ao51, co51, eo51⟩ := Kd.R_slice HO348.out; subst eo51) | ((with_reducible refine gate_callee (f := 17) rfl ?_); refine goesL_ (some 40) rfl rfl Try.func17 (by kernel_rfl) rfl #[.slice Ao50 t343.length co50, .slice Ao51 t346.length co51] rfl (by (try simp only [List.map_toArray, List.map_cons, List.map_nil]); first | done | rfl | (simp only [List.length_drop, List.length_take]; rfl)) ?_; (with_reducible refine (decoupageref02_Same.calls kj2 _ _ t343 _ _ t346 false _ ?side1 ?side2 ?side3 ?side4 A17.out).mono ?_); (case side1 => repeat (first | exact (Kd.R_reads' HO345.out).2.2 | (with_reducible refine Kd.C_alloc ?_ _) | (with_reducible refine Kd.C_drewN ?_ _) | (with_reducible refine Kd.C_drew ?_))); (case side2 => exact (Kd.R_reads' HO345.out).2.1); (case side3 => repeat (first | exact (Kd.R_reads' HO348.out).2.2 | (with_reducible refine Kd.C_alloc ?_ _) | (with_reducible refine Kd.C_drewN ?_ _) | (with_reducible refine Kd.C_drew ?_))); (case side4 => exact (Kd.R_reads' HO348.out).2.1); rintro e w' ⟨rfl, ⟨nd, rfl⟩⟩; refine ⟨_, rfl, ?_⟩))
     go_ret
     exact ⟨by first | rfl | (simp [errW_none, errW_some] <;> rfl) | (simp [*, errW_none, errW_some] <;> rfl), by repeat (first | (with_reducible first | exact HB.out | apply below_alloc | apply pw_below_drewN | apply below_drew1) | exact HB.out)⟩

end Go.Proofs.Ytppklhfiajjhmaa.PHarmTells
