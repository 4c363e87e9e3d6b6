/- What is proved: contracts of functions that the law HarmTells reaches, written by program. Conditions: none but those in each statement. -/
import Derived.Test.YtppklhfiajjhmaaZHarmTellsPHarmTellsx0
import Derived.Test.YtppklhfiajjhmaaZHarmTellsMHarmTells6
namespace Go.Proofs.Ytppklhfiajjhmaa.PHarmTells
open Go.RowKit Go.Proofs.YtppklhfiajjhmaaW.PrintWords Go.Proofs.YtppklhfiajjhmaaW.PrintLast Go.Proofs.YtppklhfiajjhmaaW.PrintMore
attribute [local go_sem] max2_int min2_int max_two min_two max_three min_three max_four min_four   -- for this text's walks alone
set_option linter.unusedVariables false
set_option linter.unusedSimpArgs false

/-! ### decoupageref29_Ends: function 15 -/
mutual
def decoupageref29_Ends.j1 : Nat → List (S39) → List (S39) → Int → Option (Int × Int)
 | 0, _, _, _ => none
 | k + 1, x0, x1, x6 => decoupageref29_Ends.l1 k x0 x1 x6 0
def decoupageref29_Ends.l1 : Nat → List (S39) → List (S39) → Int → Int → Option (Int × Int)
 | 0, _, _, _, _ => none
 | k + 1, x0, x1, x6, x7 => if x7 < (wrap64 ((x0.length : Int) - x6)) then (if x7 < (wrap64 ((x1.length : Int) - x6)) then (if 0 ≤ (wrap64 ((wrap64 ((x0.length : Int) - 1)) - x7)) then (if (wrap64 ((wrap64 ((x0.length : Int) - 1)) - x7)) < (x0.length : Int) then (if 0 ≤ (wrap64 ((wrap64 ((x1.length : Int) - 1)) - x7)) then (if (wrap64 ((wrap64 ((x1.length : Int) - 1)) - x7)) < (x1.length : Int) then ((decoupageref29_Alike.f ((rd_T39 x0 (wrap64 ((wrap64 ((x0.length : Int) - 1)) - x7))).f0) ((rd_T39 x0 (wrap64 ((wrap64 ((x0.length : Int) - 1)) - x7))).f1) ((rd_T39 x0 (wrap64 ((wrap64 ((x0.length : Int) - 1)) - x7))).f2.f0) ((rd_T39 x0 (wrap64 ((wrap64 ((x0.length : Int) - 1)) - x7))).f2.f1) ((rd_T39 x0 (wrap64 ((wrap64 ((x0.length : Int) - 1)) - x7))).f2.f2) ((rd_T39 x0 (wrap64 ((wrap64 ((x0.length : Int) - 1)) - x7))).f2.f3) ((rd_T39 x0 (wrap64 ((wrap64 ((x0.length : Int) - 1)) - x7))).f3.f0) ((rd_T39 x0 (wrap64 ((wrap64 ((x0.length : Int) - 1)) - x7))).f3.f1) ((rd_T39 x0 (wrap64 ((wrap64 ((x0.length : Int) - 1)) - x7))).f3.f2) ((rd_T39 x0 (wrap64 ((wrap64 ((x0.length : Int) - 1)) - x7))).f3.f3) ((rd_T39 x0 (wrap64 ((wrap64 ((x0.length : Int) - 1)) - x7))).f4.f0) ((rd_T39 x0 (wrap64 ((wrap64 ((x0.length : Int) - 1)) - x7))).f4.f1) ((rd_T39 x0 (wrap64 ((wrap64 ((x0.length : Int) - 1)) - x7))).f4.f2) ((rd_T39 x0 (wrap64 ((wrap64 ((x0.length : Int) - 1)) - x7))).f4.f3) ((rd_T39 x0 (wrap64 ((wrap64 ((x0.length : Int) - 1)) - x7))).f5) ((rd_T39 x1 (wrap64 ((wrap64 ((x1.length : Int) - 1)) - x7))).f0) ((rd_T39 x1 (wrap64 ((wrap64 ((x1.length : Int) - 1)) - x7))).f1) ((rd_T39 x1 (wrap64 ((wrap64 ((x1.length : Int) - 1)) - x7))).f2.f0) ((rd_T39 x1 (wrap64 ((wrap64 ((x1.length : Int) - 1)) - x7))).f2.f1) ((rd_T39 x1 (wrap64 ((wrap64 ((x1.length : Int) - 1)) - x7))).f2.f2) ((rd_T39 x1 (wrap64 ((wrap64 ((x1.length : Int) - 1)) - x7))).f2.f3) ((rd_T39 x1 (wrap64 ((wrap64 ((x1.length : Int) - 1)) - x7))).f3.f0) ((rd_T39 x1 (wrap64 ((wrap64 ((x1.length : Int) - 1)) - x7))).f3.f1) ((rd_T39 x1 (wrap64 ((wrap64 ((x1.length : Int) - 1)) - x7))).f3.f2) ((rd_T39 x1 (wrap64 ((wrap64 ((x1.length : Int) - 1)) - x7))).f3.f3) ((rd_T39 x1 (wrap64 ((wrap64 ((x1.length : Int) - 1)) - x7))).f4.f0) ((rd_T39 x1 (wrap64 ((wrap64 ((x1.length : Int) - 1)) - x7))).f4.f1) ((rd_T39 x1 (wrap64 ((wrap64 ((x1.length : Int) - 1)) - x7))).f4.f2) ((rd_T39 x1 (wrap64 ((wrap64 ((x1.length : Int) - 1)) - x7))).f4.f3) ((rd_T39 x1 (wrap64 ((wrap64 ((x1.length : Int) - 1)) - x7))).f5)).bind fun t238 => (if t238 = true then (decoupageref29_Ends.l1 k x0 x1 x6 (wrap64 (x7 + 1))) else (some (x6, x7)))) else (none)) else (none)) else (none)) else (none)) else (some (x6, x7))) else (some (x6, x7))
def decoupageref29_Ends.l0 : Nat → List (S39) → List (S39) → Int → Option (Int × Int)
 | 0, _, _, _ => none
 | k + 1, x0, x1, x6 => if x6 < (x0.length : Int) then (if x6 < (x1.length : Int) then (if 0 ≤ x6 then ((decoupageref29_Alike.f ((rd_T39 x0 x6).f0) ((rd_T39 x0 x6).f1) ((rd_T39 x0 x6).f2.f0) ((rd_T39 x0 x6).f2.f1) ((rd_T39 x0 x6).f2.f2) ((rd_T39 x0 x6).f2.f3) ((rd_T39 x0 x6).f3.f0) ((rd_T39 x0 x6).f3.f1) ((rd_T39 x0 x6).f3.f2) ((rd_T39 x0 x6).f3.f3) ((rd_T39 x0 x6).f4.f0) ((rd_T39 x0 x6).f4.f1) ((rd_T39 x0 x6).f4.f2) ((rd_T39 x0 x6).f4.f3) ((rd_T39 x0 x6).f5) ((rd_T39 x1 x6).f0) ((rd_T39 x1 x6).f1) ((rd_T39 x1 x6).f2.f0) ((rd_T39 x1 x6).f2.f1) ((rd_T39 x1 x6).f2.f2) ((rd_T39 x1 x6).f2.f3) ((rd_T39 x1 x6).f3.f0) ((rd_T39 x1 x6).f3.f1) ((rd_T39 x1 x6).f3.f2) ((rd_T39 x1 x6).f3.f3) ((rd_T39 x1 x6).f4.f0) ((rd_T39 x1 x6).f4.f1) ((rd_T39 x1 x6).f4.f2) ((rd_T39 x1 x6).f4.f3) ((rd_T39 x1 x6).f5)).bind fun t235 => (if t235 = true then (decoupageref29_Ends.l0 k x0 x1 (wrap64 (x6 + 1))) else (decoupageref29_Ends.j1 k x0 x1 x6))) else (none)) else (decoupageref29_Ends.j1 k x0 x1 x6)) else (decoupageref29_Ends.j1 k x0 x1 x6)
end
def decoupageref29_Ends.f (k : Nat) (l0 : List (S39)) (l1 : List (S39)) : Option (Int × Int) := decoupageref29_Ends.l0 k l0 l1 0
theorem decoupageref29_Ends.mono_l : ∀ k, (∀ y0 y1 y2, LeO (decoupageref29_Ends.j1 k y0 y1 y2) (decoupageref29_Ends.j1 (k + 1) y0 y1 y2)) ∧ (∀ y0 y1 y2 y3, LeO (decoupageref29_Ends.l1 k y0 y1 y2 y3) (decoupageref29_Ends.l1 (k + 1) y0 y1 y2 y3)) ∧ (∀ y0 y1 y2, LeO (decoupageref29_Ends.l0 k y0 y1 y2) (decoupageref29_Ends.l0 (k + 1) y0 y1 y2))
 | 0 => ⟨fun _ _ _ r h => by simp [decoupageref29_Ends.j1] at h, fun _ _ _ _ r h => by simp [decoupageref29_Ends.l1] at h, fun _ _ _ r h => by simp [decoupageref29_Ends.l0] at h⟩
 | k + 1 => by
  obtain ⟨ih0, ih1, ih2⟩ := decoupageref29_Ends.mono_l k
  refine ⟨?_, ?_, ?_⟩
  ·intro y0 y1 y2
   unfold decoupageref29_Ends.j1
   repeat' first
   | (with_reducible exact ih0 _ _ _)
   | (with_reducible exact ih1 _ _ _ _)
   | (with_reducible exact ih2 _ _ _)
   | (with_reducible exact LeO.refl _)
   | (with_reducible exact LeO.none _)
   | (with_reducible refine LeO.ite ?_ ?_)
   | (with_reducible refine LeO.bind ?_ (fun _ => ?_))
   | exact ih0 _ _ _
   | exact ih1 _ _ _ _
   | exact ih2 _ _ _
   | exact LeO.none _
   | refine LeO.ite ?_ ?_
   | refine LeO.bind ?_ (fun _ => ?_)
  ·intro y0 y1 y2 y3
   unfold decoupageref29_Ends.l1
   repeat' first
   | (with_reducible exact ih0 _ _ _)
   | (with_reducible exact ih1 _ _ _ _)
   | (with_reducible exact ih2 _ _ _)
   | (with_reducible exact LeO.refl _)
   | (with_reducible exact LeO.none _)
   | (with_reducible refine LeO.ite ?_ ?_)
   | (with_reducible refine LeO.bind ?_ (fun _ => ?_))
   | exact ih0 _ _ _
   | exact ih1 _ _ _ _
   | exact ih2 _ _ _
   | exact LeO.none _
   | refine LeO.ite ?_ ?_
   | refine LeO.bind ?_ (fun _ => ?_)
  ·intro y0 y1 y2
   unfold decoupageref29_Ends.l0
   repeat' first
   | (with_reducible exact ih0 _ _ _)
   | (with_reducible exact ih1 _ _ _ _)
   | (with_reducible exact ih2 _ _ _)
   | (with_reducible exact LeO.refl _)
   | (with_reducible exact LeO.none _)
   | (with_reducible refine LeO.ite ?_ ?_)
   | (with_reducible refine LeO.bind ?_ (fun _ => ?_))
   | exact ih0 _ _ _
   | exact ih1 _ _ _ _
   | exact ih2 _ _ _
   | exact LeO.none _
   | refine LeO.ite ?_ ?_
   | refine LeO.bind ?_ (fun _ => ?_)
theorem decoupageref29_Ends.mono : ∀ a0 a1 k, LeO (decoupageref29_Ends.f k a0 a1) (decoupageref29_Ends.f (k + 1) a0 a1) := by
 intro a0 a1 k
 obtain ⟨ih0, ih1, ih2⟩ := decoupageref29_Ends.mono_l k
 unfold decoupageref29_Ends.f
 repeat' first
   | (with_reducible exact ih0 _ _ _)
   | (with_reducible exact ih1 _ _ _ _)
   | (with_reducible exact ih2 _ _ _)
   | (with_reducible exact LeO.refl _)
   | (with_reducible exact LeO.none _)
   | (with_reducible refine LeO.ite ?_ ?_)
   | (with_reducible refine LeO.bind ?_ (fun _ => ?_))
   | exact ih0 _ _ _
   | exact ih1 _ _ _ _
   | exact ih2 _ _ _
   | exact LeO.none _
   | refine LeO.ite ?_ ?_
   | refine LeO.bind ?_ (fun _ => ?_)
def decoupageref29_Ends.T2 : Bool × List (List Nat × List Nat) := (true, [([], []), ([], []), ([1], [1]), ([0, 2], [0, 2]), ([3], [3]), ([4], [4]), ([4], [4]), ([6, 4], [4, 6]), ([5, 7, 4], [4, 5, 7]), ([4, 8], [4, 8]), ([9, 4], [9]), ([10], [10]), ([10], [10]), ([11, 12, 10], [10, 11, 12]), ([13, 10], [10, 13]), ([10], [10]), ([10], [10]), ([15, 16, 10], [10, 15, 16]), ([17, 10], [10, 17]), ([14, 18, 10, 10], [10, 14, 18]), ([10, 19], [10, 19])])
def decoupageref29_Ends.B2 : List Nat := [0, 0, 2, 7, 15, 31, 31, 95, 255, 511, 1023, 2047, 2047, 8191, 16383, 2047, 2047, 100351, 231423, 524287, 1048575]
theorem decoupageref29_Ends.tab2 : rtab .any (opsOf Try.f15 2) = decoupageref29_Ends.T2 := by kernel_rfl
theorem decoupageref29_Ends.bits2 : waitsOk decoupageref29_Ends.T2.2 decoupageref29_Ends.B2 = true := by kernel_rfl
def decoupageref29_Ends.T5 : Bool × List (List Nat × List Nat) := (true, [([], []), ([], []), ([1], [1]), ([], []), ([2, 3], [2, 3]), ([0, 4], [0, 4]), ([5], [5]), ([6], [6]), ([6], [6]), ([8, 6], [6, 8]), ([6], [6]), ([9, 10, 6], [6, 9, 10]), ([7, 11, 6], [6, 7, 11]), ([6, 12], [6, 12]), ([13, 6], [13]), ([14], [14]), ([14], [14]), ([16, 14], [14, 16]), ([17, 14], [14, 17]), ([14], [14]), ([18, 19, 14], [14, 18, 19]), ([15, 20, 14], [14, 15, 20]), ([21, 14], [14, 21]), ([14], [14]), ([14], [14]), ([24, 14], [14, 24]), ([25, 14], [14, 25]), ([14], [14]), ([26, 27, 14], [14, 26, 27]), ([23, 28, 14], [14, 23, 28]), ([29, 14], [14, 29]), ([22, 30, 14, 14], [14, 22, 30]), ([14, 31], [14, 31])])
def decoupageref29_Ends.B5 : List Nat := [0, 0, 2, 0, 14, 31, 63, 127, 127, 383, 127, 1919, 4095, 8191, 16383, 32767, 32767, 98303, 229375, 32767, 1015807, 2097151, 4194303, 32767, 32767, 16809983, 50364415, 32767, 251691007, 528515071, 1065385983, 2147483647, 4294967295]
theorem decoupageref29_Ends.tab5 : rtab .any (opsOf Try.f15 5) = decoupageref29_Ends.T5 := by kernel_rfl
theorem decoupageref29_Ends.bits5 : waitsOk decoupageref29_Ends.T5.2 decoupageref29_Ends.B5 = true := by kernel_rfl
set_option maxHeartbeats 8000000 in
set_option maxRecDepth 100000 in
theorem decoupageref29_Ends.calls (k : Nat) (A0 : Option Addr) (c0 : Nat) (l0 : List (S39)) (A1 : Option Addr) (c1 : Nat) (l1 : List (S39)) (r1 : Int) (r2 : Int) (w : World) (hr0 : Kd.C k39 w A0 l0.length l0) (hc0 : l0.length ≤ c0) (hr1 : Kd.C k39 w A1 l1.length l1) (hc1 : l1.length ≤ c1) (h : decoupageref29_Ends.f k l0 l1 = some (r1, r2)) :
  Calls Try.prog 15 #[.slice A0 l0.length c0, .slice A1 l1.length c1] w fun e w' => e = .returned (.tuple #[.int .i64 r1, .int .i64 r2]) ∧ Below w.heap.size w w' := by
 have hu39 := Try.underlying39
 have HR0 := Aside0.mk hr0
 have HC0 := Aside0.mk hc0
 clear hr0 hc0
 have HR1 := Aside0.mk hr1
 have HC1 := Aside0.mk hc1
 clear hr1 hc1
 have HB := Aside0.mk (Below.refl w.heap.size w)
 have H : (decoupageref29_Ends.l0 k l0 l1 0) = some (r1, r2) := h
 clear h
 have HC3 := Aside0.mk H
 clear H
 go_enter Try.func15, Try.ntmps15
 go_upto_block 0 with (fail)
 go_cut [6] (fun v6 wc => ∃ (kq : Nat) (x6_2 : Int), v6 = .int .i64 x6_2 ∧ Aside0 (decoupageref29_Ends.j1 kq l0 l1 x6_2 = some (r1, r2)) ∧ Aside0 (kq ≤ k) ∧ Aside0 (Below w.heap.size w wc))
 case first =>
  have H := HC3.out
  clear HC3
  have H' := Aside0.mk H
  clear H
  go_wp2
  go_loopg [6] k (fun kq v6 w' => ∃ (x6_1 : Int), v6 = .int .i64 x6_1 ∧ Aside0 (decoupageref29_Ends.l0 kq l0 l1 x6_1 = some (r1, r2)) ∧ Aside0 (kq ≤ k) ∧ Aside0 (Below w.heap.size w w'))
  case atStart => exact ⟨(0), (by first | rfl | (simp; done) | (simp [*]; done)), H', ⟨Nat.le_refl _⟩, ⟨by repeat (first | (with_reducible first | exact HB.out | apply below_alloc | apply pw_below_drewN | apply below_drew1) | exact HB.out)⟩⟩
  case round =>
   clear H'
   try clear c1
   try clear p2
   obtain ⟨x6_1, rfl, HA, HK1, HB⟩ := hrel
   cases gk with
   | zero => exact absurd HA.out (by simp [decoupageref29_Ends.l0])
   | succ k1 =>
    have H := HA.out
    clear HA
    simp only [decoupageref29_Ends.l0] at H
    by_cases c4 : x6_1 < (l0.length : Int)
    ·rw [if_pos c4] at H
     have c4b0 : decide (x6_1 < (l0.length : Int)) = true := decide_eq_true c4
     clear c4
     (first | rw [c4b0] | (simp only [i64_w, i32_w]; rw [c4b0]) | skip)
     by_cases c5 : x6_1 < (l1.length : Int)
     ·rw [if_pos c5] at H
      have c5b0 : decide (x6_1 < (l1.length : Int)) = true := decide_eq_true c5
      clear c5
      by_cases c6 : 0 ≤ x6_1
      ·rw [if_pos c6] at H
       have c6b0 : decide (0 ≤ x6_1) = true := decide_eq_true c6
       clear c6
       replace H := Option.bind_eq_some_iff.mp H
       obtain ⟨t235, A70, H⟩ := H
       replace H : (if t235 = true then (decoupageref29_Ends.l0 k1 l0 l1 (wrap64 (x6_1 + 1))) else (decoupageref29_Ends.j1 k1 l0 l1 x6_1)) = some (r1, r2) := H
       have A7 := Aside0.mk A70
       clear A70
       have HM := Aside0.mk H
       clear H
       try go_wp2
       have n0_ := Aside0.mk (below_drew1 HB.out)
       clear HB
       have HB := n0_
       clear n0_
       have p233 : 0 ≤ (x6_1 : Int) := of_decide_eq_true (by first | (with_reducible assumption) | assumption)
       have q233 : x6_1 < (l0.length : Int) := of_decide_eq_true (by first | (with_reducible assumption) | assumption)
       obtain ⟨ad233, e233, hx233_0, hx233_1, hx233_2, hx233_3, hx233_4, hx233_5, hx233_6, hx233_7, hx233_8, hx233_9, hx233_10, hx233_11, hx233_12, hx233_13, hx233_14⟩ := at_T39 HR0.out x6_1 p233 q233
       have hw233_14 := hx233_14
       have hw233_13 := hx233_13
       have hw233_12 := hx233_12
       have hw233_11 := hx233_11
       have hw233_10 := hx233_10
       have hw233_9 := hx233_9
       have hw233_8 := hx233_8
       have hw233_7 := hx233_7
       have hw233_6 := hx233_6
       have hw233_5 := hx233_5
       have hw233_4 := hx233_4
       have hw233_3 := hx233_3
       have hw233_2 := hx233_2
       have hw233_1 := hx233_1
       have hw233_0 := hx233_0
       cases e233
       replace hx233_0 := (HB.out.cell (World.block_lt_of_cell? w _ hx233_0)).trans hx233_0
       replace hx233_1 := (HB.out.cell (World.block_lt_of_cell? w _ hx233_1)).trans hx233_1
       replace hx233_2 := (HB.out.cell (World.block_lt_of_cell? w _ hx233_2)).trans hx233_2
       replace hx233_3 := (HB.out.cell (World.block_lt_of_cell? w _ hx233_3)).trans hx233_3
       replace hx233_4 := (HB.out.cell (World.block_lt_of_cell? w _ hx233_4)).trans hx233_4
       replace hx233_5 := (HB.out.cell (World.block_lt_of_cell? w _ hx233_5)).trans hx233_5
       replace hx233_6 := (HB.out.cell (World.block_lt_of_cell? w _ hx233_6)).trans hx233_6
       replace hx233_7 := (HB.out.cell (World.block_lt_of_cell? w _ hx233_7)).trans hx233_7
       replace hx233_8 := (HB.out.cell (World.block_lt_of_cell? w _ hx233_8)).trans hx233_8
       replace hx233_9 := (HB.out.cell (World.block_lt_of_cell? w _ hx233_9)).trans hx233_9
       replace hx233_10 := (HB.out.cell (World.block_lt_of_cell? w _ hx233_10)).trans hx233_10
       replace hx233_11 := (HB.out.cell (World.block_lt_of_cell? w _ hx233_11)).trans hx233_11
       replace hx233_12 := (HB.out.cell (World.block_lt_of_cell? w _ hx233_12)).trans hx233_12
       replace hx233_13 := (HB.out.cell (World.block_lt_of_cell? w _ hx233_13)).trans hx233_13
       replace hx233_14 := (HB.out.cell (World.block_lt_of_cell? w _ hx233_14)).trans hx233_14
       replace p233 := eq_true p233
       replace q233 := eq_true q233
       have p234 : 0 ≤ (x6_1 : Int) := of_decide_eq_true (by first | (with_reducible assumption) | assumption)
       have q234 : x6_1 < (l1.length : Int) := of_decide_eq_true (by first | (with_reducible assumption) | assumption)
       obtain ⟨ad234, e234, hx234_0, hx234_1, hx234_2, hx234_3, hx234_4, hx234_5, hx234_6, hx234_7, hx234_8, hx234_9, hx234_10, hx234_11, hx234_12, hx234_13, hx234_14⟩ := at_T39 HR1.out x6_1 p234 q234
       have hw234_14 := hx234_14
       have hw234_13 := hx234_13
       have hw234_12 := hx234_12
       have hw234_11 := hx234_11
       have hw234_10 := hx234_10
       have hw234_9 := hx234_9
       have hw234_8 := hx234_8
       have hw234_7 := hx234_7
       have hw234_6 := hx234_6
       have hw234_5 := hx234_5
       have hw234_4 := hx234_4
       have hw234_3 := hx234_3
       have hw234_2 := hx234_2
       have hw234_1 := hx234_1
       have hw234_0 := hx234_0
       cases e234
       replace hx234_0 := (HB.out.cell (World.block_lt_of_cell? w _ hx234_0)).trans hx234_0
       replace hx234_1 := (HB.out.cell (World.block_lt_of_cell? w _ hx234_1)).trans hx234_1
       replace hx234_2 := (HB.out.cell (World.block_lt_of_cell? w _ hx234_2)).trans hx234_2
       replace hx234_3 := (HB.out.cell (World.block_lt_of_cell? w _ hx234_3)).trans hx234_3
       replace hx234_4 := (HB.out.cell (World.block_lt_of_cell? w _ hx234_4)).trans hx234_4
       replace hx234_5 := (HB.out.cell (World.block_lt_of_cell? w _ hx234_5)).trans hx234_5
       replace hx234_6 := (HB.out.cell (World.block_lt_of_cell? w _ hx234_6)).trans hx234_6
       replace hx234_7 := (HB.out.cell (World.block_lt_of_cell? w _ hx234_7)).trans hx234_7
       replace hx234_8 := (HB.out.cell (World.block_lt_of_cell? w _ hx234_8)).trans hx234_8
       replace hx234_9 := (HB.out.cell (World.block_lt_of_cell? w _ hx234_9)).trans hx234_9
       replace hx234_10 := (HB.out.cell (World.block_lt_of_cell? w _ hx234_10)).trans hx234_10
       replace hx234_11 := (HB.out.cell (World.block_lt_of_cell? w _ hx234_11)).trans hx234_11
       replace hx234_12 := (HB.out.cell (World.block_lt_of_cell? w _ hx234_12)).trans hx234_12
       replace hx234_13 := (HB.out.cell (World.block_lt_of_cell? w _ hx234_13)).trans hx234_13
       replace hx234_14 := (HB.out.cell (World.block_lt_of_cell? w _ hx234_14)).trans hx234_14
       replace p234 := eq_true p234
       replace q234 := eq_true q234
       refine start_ (n := 21) (S := fun w' => w'.cell? (ad233.add ((x6_1).toNat * 15)) = some (.int .i64 ((rd_T39 l0 x6_1).f0)) ∧ w'.cell? ⟨(ad233.add ((x6_1).toNat * 15)).block, (ad233.add ((x6_1).toNat * 15)).off + 1, none⟩ = some (.int .i64 ((rd_T39 l0 x6_1).f1)) ∧ w'.cell? ⟨(ad233.add ((x6_1).toNat * 15)).block, (ad233.add ((x6_1).toNat * 15)).off + 2, none⟩ = some (.int .i64 ((rd_T39 l0 x6_1).f2.f0)) ∧ w'.cell? ⟨(ad233.add ((x6_1).toNat * 15)).block, (ad233.add ((x6_1).toNat * 15)).off + 3, none⟩ = some (.int .i64 ((rd_T39 l0 x6_1).f2.f1)) ∧ w'.cell? ⟨(ad233.add ((x6_1).toNat * 15)).block, (ad233.add ((x6_1).toNat * 15)).off + 4, none⟩ = some (.int .i64 ((rd_T39 l0 x6_1).f2.f2)) ∧ w'.cell? ⟨(ad233.add ((x6_1).toNat * 15)).block, (ad233.add ((x6_1).toNat * 15)).off + 5, none⟩ = some (.int .i64 ((rd_T39 l0 x6_1).f2.f3)) ∧ w'.cell? ⟨(ad233.add ((x6_1).toNat * 15)).block, (ad233.add ((x6_1).toNat * 15)).off + 6, none⟩ = some (.int .i64 ((rd_T39 l0 x6_1).f3.f0)) ∧ w'.cell? ⟨(ad233.add ((x6_1).toNat * 15)).block, (ad233.add ((x6_1).toNat * 15)).off + 7, none⟩ = some (.int .i64 ((rd_T39 l0 x6_1).f3.f1)) ∧ w'.cell? ⟨(ad233.add ((x6_1).toNat * 15)).block, (ad233.add ((x6_1).toNat * 15)).off + 8, none⟩ = some (.int .i64 ((rd_T39 l0 x6_1).f3.f2)) ∧ w'.cell? ⟨(ad233.add ((x6_1).toNat * 15)).block, (ad233.add ((x6_1).toNat * 15)).off + 9, none⟩ = some (.int .i64 ((rd_T39 l0 x6_1).f3.f3)) ∧ w'.cell? ⟨(ad233.add ((x6_1).toNat * 15)).block, (ad233.add ((x6_1).toNat * 15)).off + 10, none⟩ = some (.int .i64 ((rd_T39 l0 x6_1).f4.f0)) ∧ w'.cell? ⟨(ad233.add ((x6_1).toNat * 15)).block, (ad233.add ((x6_1).toNat * 15)).off + 11, none⟩ = some (.int .i64 ((rd_T39 l0 x6_1).f4.f1)) ∧ w'.cell? ⟨(ad233.add ((x6_1).toNat * 15)).block, (ad233.add ((x6_1).toNat * 15)).off + 12, none⟩ = some (.int .i64 ((rd_T39 l0 x6_1).f4.f2)) ∧ w'.cell? ⟨(ad233.add ((x6_1).toNat * 15)).block, (ad233.add ((x6_1).toNat * 15)).off + 13, none⟩ = some (.int .i64 ((rd_T39 l0 x6_1).f4.f3)) ∧ w'.cell? ⟨(ad233.add ((x6_1).toNat * 15)).block, (ad233.add ((x6_1).toNat * 15)).off + 14, none⟩ = some (.int .i64 ((rd_T39 l0 x6_1).f5)) ∧ w'.cell? (ad234.add ((x6_1).toNat * 15)) = some (.int .i64 ((rd_T39 l1 x6_1).f0)) ∧ w'.cell? ⟨(ad234.add ((x6_1).toNat * 15)).block, (ad234.add ((x6_1).toNat * 15)).off + 1, none⟩ = some (.int .i64 ((rd_T39 l1 x6_1).f1)) ∧ w'.cell? ⟨(ad234.add ((x6_1).toNat * 15)).block, (ad234.add ((x6_1).toNat * 15)).off + 2, none⟩ = some (.int .i64 ((rd_T39 l1 x6_1).f2.f0)) ∧ w'.cell? ⟨(ad234.add ((x6_1).toNat * 15)).block, (ad234.add ((x6_1).toNat * 15)).off + 3, none⟩ = some (.int .i64 ((rd_T39 l1 x6_1).f2.f1)) ∧ w'.cell? ⟨(ad234.add ((x6_1).toNat * 15)).block, (ad234.add ((x6_1).toNat * 15)).off + 4, none⟩ = some (.int .i64 ((rd_T39 l1 x6_1).f2.f2)) ∧ w'.cell? ⟨(ad234.add ((x6_1).toNat * 15)).block, (ad234.add ((x6_1).toNat * 15)).off + 5, none⟩ = some (.int .i64 ((rd_T39 l1 x6_1).f2.f3)) ∧ w'.cell? ⟨(ad234.add ((x6_1).toNat * 15)).block, (ad234.add ((x6_1).toNat * 15)).off + 6, none⟩ = some (.int .i64 ((rd_T39 l1 x6_1).f3.f0)) ∧ w'.cell? ⟨(ad234.add ((x6_1).toNat * 15)).block, (ad234.add ((x6_1).toNat * 15)).off + 7, none⟩ = some (.int .i64 ((rd_T39 l1 x6_1).f3.f1)) ∧ w'.cell? ⟨(ad234.add ((x6_1).toNat * 15)).block, (ad234.add ((x6_1).toNat * 15)).off + 8, none⟩ = some (.int .i64 ((rd_T39 l1 x6_1).f3.f2)) ∧ w'.cell? ⟨(ad234.add ((x6_1).toNat * 15)).block, (ad234.add ((x6_1).toNat * 15)).off + 9, none⟩ = some (.int .i64 ((rd_T39 l1 x6_1).f3.f3)) ∧ w'.cell? ⟨(ad234.add ((x6_1).toNat * 15)).block, (ad234.add ((x6_1).toNat * 15)).off + 10, none⟩ = some (.int .i64 ((rd_T39 l1 x6_1).f4.f0)) ∧ w'.cell? ⟨(ad234.add ((x6_1).toNat * 15)).block, (ad234.add ((x6_1).toNat * 15)).off + 11, none⟩ = some (.int .i64 ((rd_T39 l1 x6_1).f4.f1)) ∧ w'.cell? ⟨(ad234.add ((x6_1).toNat * 15)).block, (ad234.add ((x6_1).toNat * 15)).off + 12, none⟩ = some (.int .i64 ((rd_T39 l1 x6_1).f4.f2)) ∧ w'.cell? ⟨(ad234.add ((x6_1).toNat * 15)).block, (ad234.add ((x6_1).toNat * 15)).off + 13, none⟩ = some (.int .i64 ((rd_T39 l1 x6_1).f4.f3)) ∧ w'.cell? ⟨(ad234.add ((x6_1).toNat * 15)).block, (ad234.add ((x6_1).toNat * 15)).off + 14, none⟩ = some (.int .i64 ((rd_T39 l1 x6_1).f5))) (ds := []) #[false, false, false, false, false, false, false, false, false, false, false, false, false, false, false, false, false, false, false, false, false] (by kernel_rfl) rfl rfl ⟨((HB.out.cell (World.block_lt_of_cell? w _ hw233_0)).trans hw233_0), ((HB.out.cell (World.block_lt_of_cell? w _ hw233_1)).trans hw233_1), ((HB.out.cell (World.block_lt_of_cell? w _ hw233_2)).trans hw233_2), ((HB.out.cell (World.block_lt_of_cell? w _ hw233_3)).trans hw233_3), ((HB.out.cell (World.block_lt_of_cell? w _ hw233_4)).trans hw233_4), ((HB.out.cell (World.block_lt_of_cell? w _ hw233_5)).trans hw233_5), ((HB.out.cell (World.block_lt_of_cell? w _ hw233_6)).trans hw233_6), ((HB.out.cell (World.block_lt_of_cell? w _ hw233_7)).trans hw233_7), ((HB.out.cell (World.block_lt_of_cell? w _ hw233_8)).trans hw233_8), ((HB.out.cell (World.block_lt_of_cell? w _ hw233_9)).trans hw233_9), ((HB.out.cell (World.block_lt_of_cell? w _ hw233_10)).trans hw233_10), ((HB.out.cell (World.block_lt_of_cell? w _ hw233_11)).trans hw233_11), ((HB.out.cell (World.block_lt_of_cell? w _ hw233_12)).trans hw233_12), ((HB.out.cell (World.block_lt_of_cell? w _ hw233_13)).trans hw233_13), ((HB.out.cell (World.block_lt_of_cell? w _ hw233_14)).trans hw233_14), ((HB.out.cell (World.block_lt_of_cell? w _ hw234_0)).trans hw234_0), ((HB.out.cell (World.block_lt_of_cell? w _ hw234_1)).trans hw234_1), ((HB.out.cell (World.block_lt_of_cell? w _ hw234_2)).trans hw234_2), ((HB.out.cell (World.block_lt_of_cell? w _ hw234_3)).trans hw234_3), ((HB.out.cell (World.block_lt_of_cell? w _ hw234_4)).trans hw234_4), ((HB.out.cell (World.block_lt_of_cell? w _ hw234_5)).trans hw234_5), ((HB.out.cell (World.block_lt_of_cell? w _ hw234_6)).trans hw234_6), ((HB.out.cell (World.block_lt_of_cell? w _ hw234_7)).trans hw234_7), ((HB.out.cell (World.block_lt_of_cell? w _ hw234_8)).trans hw234_8), ((HB.out.cell (World.block_lt_of_cell? w _ hw234_9)).trans hw234_9), ((HB.out.cell (World.block_lt_of_cell? w _ hw234_10)).trans hw234_10), ((HB.out.cell (World.block_lt_of_cell? w _ hw234_11)).trans hw234_11), ((HB.out.cell (World.block_lt_of_cell? w _ hw234_12)).trans hw234_12), ((HB.out.cell (World.block_lt_of_cell? w _ hw234_13)).trans hw234_13), ((HB.out.cell (World.block_lt_of_cell? w _ hw234_14)).trans hw234_14)⟩ (fun hHeld => ?_); refine with_tabW decoupageref29_Ends.tab2 decoupageref29_Ends.bits2 (fun HT_ HW_ => ?_)
       generalize wr.drew = w11 at HB hx233_0 hx233_1 hx233_10 hx233_11 hx233_12 hx233_13 hx233_14 hx233_2 hx233_3 hx233_4 hx233_5 hx233_6 hx233_7 hx233_8 hx233_9 hx234_0 hx234_1 hx234_10 hx234_11 hx234_12 hx234_13 hx234_14 hx234_2 hx234_3 hx234_4 hx234_5 hx234_6 hx234_7 hx234_8 hx234_9 hHeld ⊢
       refine pure_ (i := 0) (N := some 8) (v := ?_) (a' := ?_) #[true, false, false, false, false, false, false, false, false, false, false, false, false, false, false, false, false, false, false, false, false] rfl rfl (any_of HT_.out (by kernel_rfl)) (fun _ _ _ h => h) (Or.inl ⟨by rfl, ?_⟩) ?_ ?_
       rotate_left
       ·intro w'
        go_simp
        with_reducible rfl
       rotate_left
       ·simp only [Act.put, List.setIfInBounds_toArray, List.set_cons_zero, List.set_cons_succ, i64_w, i32_w]
        rfl
       refine pure_ (i := 1) (N := some 9) (v := ?_) (a' := ?_) #[true, true, false, false, false, false, false, false, false, false, false, false, false, false, false, false, false, false, false, false, false] rfl rfl (any_of HT_.out (by kernel_rfl)) (fun _ _ _ h => h) (Or.inl ⟨by rfl, ?_⟩) ?_ ?_
       rotate_left
       ·intro w'
        go_simp
        with_reducible rfl
       rotate_left
       ·simp only [Act.put, List.setIfInBounds_toArray, List.set_cons_zero, List.set_cons_succ, i64_w, i32_w]
        rfl
       refine pure_ (i := 2) (N := some 10) (v := ?_) (a' := ?_) #[true, true, true, false, false, false, false, false, false, false, false, false, false, false, false, false, false, false, false, false, false] rfl rfl (any_of HT_.out (by kernel_rfl)) (fun _ _ _ h => h) (Or.inl ⟨by rfl, ?_⟩) ?_ ?_
       rotate_left
       ·intro w'
        go_simp
        with_reducible rfl
       rotate_left
       ·simp only [Act.put, List.setIfInBounds_toArray, List.set_cons_zero, List.set_cons_succ, i64_w, i32_w]
        rfl
       refine pure_ (i := 3) (N := some 11) (v := ?_) (a' := ?_) #[true, true, true, true, false, false, false, false, false, false, false, false, false, false, false, false, false, false, false, false, false] rfl rfl (any_of HT_.out (by kernel_rfl)) (fun _ _ _ h => h) (Or.inl ⟨by rfl, ?_⟩) ?_ ?_
       rotate_left
       ·intro w'
        go_simp
        with_reducible rfl
       rotate_left
       ·simp only [Act.put, List.setIfInBounds_toArray, List.set_cons_zero, List.set_cons_succ, i64_w, i32_w]
        rfl
       refine pure_ (i := 4) (N := some 12) (v := ?_) (a' := ?_) #[true, true, true, true, true, false, false, false, false, false, false, false, false, false, false, false, false, false, false, false, false] rfl rfl (any_of HT_.out (by kernel_rfl)) (fun _ _ _ h => h) (Or.inl ⟨by rfl, ?_⟩) ?_ ?_
       rotate_left
       ·intro w'
        go_simp
        with_reducible rfl
       rotate_left
       ·simp only [Act.put, List.setIfInBounds_toArray, List.set_cons_zero, List.set_cons_succ, i64_w, i32_w]
        rfl
       refine pure_ (i := 5) (N := some 13) (v := ?_) (a' := ?_) #[true, true, true, true, true, true, false, false, false, false, false, false, false, false, false, false, false, false, false, false, false] rfl rfl (any_of HT_.out (by kernel_rfl)) (fun _ _ _ h => h) (Or.inl ⟨by rfl, ?_⟩) ?_ ?_
       rotate_left
       ·intro w'
        go_simp
        with_reducible rfl
       rotate_left
       ·simp only [Act.put, List.setIfInBounds_toArray, List.set_cons_zero, List.set_cons_succ, i64_w, i32_w]
        rfl
       refine pure_ (i := 6) (N := some 14) (v := ?_) (a' := ?_) #[true, true, true, true, true, true, true, false, false, false, false, false, false, false, false, false, false, false, false, false, false] rfl rfl (any_of HT_.out (by kernel_rfl)) (fun _ _ _ h => h) (Or.inl ⟨by rfl, ?_⟩) ?_ ?_
       rotate_left
       ·intro w'
        go_simp
        with_reducible rfl
       rotate_left
       ·simp only [Act.put, List.setIfInBounds_toArray, List.set_cons_zero, List.set_cons_succ, i64_w, i32_w]
        rfl
       refine pure_ (i := 7) (N := some 15) (v := ?_) (a' := ?_) #[true, true, true, true, true, true, true, true, false, false, false, false, false, false, false, false, false, false, false, false, false] rfl rfl (any_of HT_.out (by kernel_rfl)) (fun _ _ _ h => h) (Or.inl ⟨by rfl, ?_⟩) ?_ ?_
       rotate_left
       ·intro w'
        go_simp
        with_reducible rfl
       rotate_left
       ·simp only [Act.put, List.setIfInBounds_toArray, List.set_cons_zero, List.set_cons_succ, i64_w, i32_w]
        rfl
       refine pure_ (i := 8) (N := some 16) (v := ?_) (a' := ?_) #[true, true, true, true, true, true, true, true, true, false, false, false, false, false, false, false, false, false, false, false, false] rfl rfl (any_of HT_.out (by kernel_rfl)) (fun _ _ _ h => h) (Or.inl ⟨by rfl, ?_⟩) ?_ ?_
       rotate_left
       ·intro w'
        go_simp
        with_reducible rfl
       rotate_left
       ·simp only [Act.put, List.setIfInBounds_toArray, List.set_cons_zero, List.set_cons_succ, i64_w, i32_w]
        rfl
       refine pure_ (i := 9) (N := some 17) (v := ?_) (a' := ?_) #[true, true, true, true, true, true, true, true, true, true, false, false, false, false, false, false, false, false, false, false, false] rfl rfl (any_of HT_.out (by kernel_rfl)) (fun _ _ _ h => h) (Or.inl ⟨by rfl, ?_⟩) ?_ ?_
       rotate_left
       ·intro w'
        go_simp
        with_reducible rfl
       rotate_left
       ·simp only [Act.put, List.setIfInBounds_toArray, List.set_cons_zero, List.set_cons_succ, i64_w, i32_w]
        rfl
       refine pure_ (i := 10) (N := some 18) (v := ?_) (a' := ?_) #[true, true, true, true, true, true, true, true, true, true, true, false, false, false, false, false, false, false, false, false, false] rfl rfl (any_of HT_.out (by kernel_rfl)) (fun _ _ _ h => h) (Or.inl ⟨by rfl, ?_⟩) ?_ ?_
       rotate_left
       ·intro w'
        go_simp
        with_reducible rfl
       rotate_left
       ·simp only [Act.put, List.setIfInBounds_toArray, List.set_cons_zero, List.set_cons_succ, i64_w, i32_w]
        rfl
       refine pure_ (i := 11) (N := some 19) (v := ?_) (a' := ?_) #[true, true, true, true, true, true, true, true, true, true, true, true, false, false, false, false, false, false, false, false, false] rfl rfl (any_of HT_.out (by kernel_rfl)) (fun _ _ _ h => h) (Or.inl ⟨by rfl, ?_⟩) ?_ ?_
       rotate_left
       ·intro w'
        go_simp
        with_reducible rfl
       rotate_left
       ·simp only [Act.put, List.setIfInBounds_toArray, List.set_cons_zero, List.set_cons_succ, i64_w, i32_w]
        rfl
       refine pure_ (i := 12) (N := some 20) (v := ?_) (a' := ?_) #[true, true, true, true, true, true, true, true, true, true, true, true, true, false, false, false, false, false, false, false, false] rfl rfl (any_of HT_.out (by kernel_rfl)) (fun _ _ _ h => h) (Or.inl ⟨by rfl, ?_⟩) ?_ ?_
       rotate_left
       ·intro w'
        go_simp
        with_reducible rfl
       rotate_left
       ·simp only [Act.put, List.setIfInBounds_toArray, List.set_cons_zero, List.set_cons_succ, i64_w, i32_w]
        rfl
       refine pure_ (i := 13) (N := some 21) (v := ?_) (a' := ?_) #[true, true, true, true, true, true, true, true, true, true, true, true, true, true, false, false, false, false, false, false, false] rfl rfl (any_of HT_.out (by kernel_rfl)) (fun _ _ _ h => h) (Or.inl ⟨by rfl, ?_⟩) ?_ ?_
       rotate_left
       ·intro w'
        go_simp
        with_reducible rfl
       rotate_left
       ·simp only [Act.put, List.setIfInBounds_toArray, List.set_cons_zero, List.set_cons_succ, i64_w, i32_w]
        rfl
       refine pure_ (i := 15) (N := some 23) (v := ?_) (a' := ?_) #[true, true, true, true, true, true, true, true, true, true, true, true, true, true, false, true, false, false, false, false, false] rfl rfl (any_of HT_.out (by kernel_rfl)) (fun _ _ _ h => h) (Or.inl ⟨by rfl, ?_⟩) ?_ ?_
       rotate_left
       ·intro w'
        go_simp
        with_reducible rfl
       rotate_left
       ·simp only [Act.put, List.setIfInBounds_toArray, List.set_cons_zero, List.set_cons_succ, i64_w, i32_w]
        rfl
       refine pure_ (i := 16) (N := some 24) (v := ?_) (a' := ?_) #[true, true, true, true, true, true, true, true, true, true, true, true, true, true, false, true, true, false, false, false, false] rfl rfl (any_of HT_.out (by kernel_rfl)) (fun _ _ _ h => h) (Or.inl ⟨by rfl, ?_⟩) ?_ ?_
       rotate_left
       ·intro w'
        go_simp
        with_reducible rfl
       rotate_left
       ·simp only [Act.put, List.setIfInBounds_toArray, List.set_cons_zero, List.set_cons_succ, i64_w, i32_w]
        rfl
       refine pure_ (i := 17) (N := some 25) (v := ?_) (a' := ?_) #[true, true, true, true, true, true, true, true, true, true, true, true, true, true, false, true, true, true, false, false, false] rfl rfl (any_of HT_.out (by kernel_rfl)) (fun _ _ _ h => h) (Or.inl ⟨by rfl, ?_⟩) ?_ ?_
       rotate_left
       ·intro w'
        go_simp
        with_reducible rfl
       rotate_left
       ·simp only [Act.put, List.setIfInBounds_toArray, List.set_cons_zero, List.set_cons_succ, i64_w, i32_w]
        rfl
       refine take_ (i := 14) (N := some 22) (v := ?_) (a' := ?_) #[true, true, true, true, true, true, true, true, true, true, true, true, true, true, true, true, true, true, false, false, false] rfl rfl (take_ofW HT_.out HW_.out (by kernel_rfl)) (fun _ _ _ h => h) (Or.inl ⟨by rfl, ?_⟩) hHeld ?_ ?_
       rotate_left
       ·rintro w' ⟨s0, s1, s2, s3, s4, s5, s6, s7, s8, s9, s10, s11, s12, s13, s14, s15, s16, s17, s18, s19, s20, s21, s22, s23, s24, s25, s26, s27, s28, s29⟩
        go_simp
        with_reducible rfl
       rotate_left
       ·simp only [Act.put, List.setIfInBounds_toArray, List.set_cons_zero, List.set_cons_succ, i64_w, i32_w]
        rfl
       refine take_ (i := 18) (N := some 26) (v := ?_) (a' := ?_) #[true, true, true, true, true, true, true, true, true, true, true, true, true, true, true, true, true, true, true, false, false] rfl rfl (take_ofW HT_.out HW_.out (by kernel_rfl)) (fun _ _ _ h => h) (Or.inl ⟨by rfl, ?_⟩) hHeld ?_ ?_
       rotate_left
       ·rintro w' ⟨s0, s1, s2, s3, s4, s5, s6, s7, s8, s9, s10, s11, s12, s13, s14, s15, s16, s17, s18, s19, s20, s21, s22, s23, s24, s25, s26, s27, s28, s29⟩
        go_simp
        with_reducible rfl
       rotate_left
       ·simp only [Act.put, List.setIfInBounds_toArray, List.set_cons_zero, List.set_cons_succ, i64_w, i32_w]
        rfl
       refine one_ (i := 19) (N := some 27) #[true, true, true, true, true, true, true, true, true, true, true, true, true, true, true, true, true, true, true, true, false] rfl rfl (one_of HT_.out (by kernel_rfl)) (by decide) (fun K hK => ?_)
       refine goes_ Try.func25 (by kernel_rfl) rfl #[.agg #[.int .i64 ((rd_T39 l0 x6_1).f0), .int .i64 ((rd_T39 l0 x6_1).f1), .int .i64 ((rd_T39 l0 x6_1).f2.f0), .int .i64 ((rd_T39 l0 x6_1).f2.f1), .int .i64 ((rd_T39 l0 x6_1).f2.f2), .int .i64 ((rd_T39 l0 x6_1).f2.f3), .int .i64 ((rd_T39 l0 x6_1).f3.f0), .int .i64 ((rd_T39 l0 x6_1).f3.f1), .int .i64 ((rd_T39 l0 x6_1).f3.f2), .int .i64 ((rd_T39 l0 x6_1).f3.f3), .int .i64 ((rd_T39 l0 x6_1).f4.f0), .int .i64 ((rd_T39 l0 x6_1).f4.f1), .int .i64 ((rd_T39 l0 x6_1).f4.f2), .int .i64 ((rd_T39 l0 x6_1).f4.f3), .int .i64 ((rd_T39 l0 x6_1).f5)], .agg #[.int .i64 ((rd_T39 l1 x6_1).f0), .int .i64 ((rd_T39 l1 x6_1).f1), .int .i64 ((rd_T39 l1 x6_1).f2.f0), .int .i64 ((rd_T39 l1 x6_1).f2.f1), .int .i64 ((rd_T39 l1 x6_1).f2.f2), .int .i64 ((rd_T39 l1 x6_1).f2.f3), .int .i64 ((rd_T39 l1 x6_1).f3.f0), .int .i64 ((rd_T39 l1 x6_1).f3.f1), .int .i64 ((rd_T39 l1 x6_1).f3.f2), .int .i64 ((rd_T39 l1 x6_1).f3.f3), .int .i64 ((rd_T39 l1 x6_1).f4.f0), .int .i64 ((rd_T39 l1 x6_1).f4.f1), .int .i64 ((rd_T39 l1 x6_1).f4.f2), .int .i64 ((rd_T39 l1 x6_1).f4.f3), .int .i64 ((rd_T39 l1 x6_1).f5)]] (by rfl) rfl rfl (by (try simp only [List.map_toArray, List.map_cons, List.map_nil]); first | done | rfl | (simp only [List.length_drop, List.length_take]; rfl)) ?_
       with_reducible refine (decoupageref29_Alike.calls ((rd_T39 l0 x6_1).f0) ((rd_T39 l0 x6_1).f1) ((rd_T39 l0 x6_1).f2.f0) ((rd_T39 l0 x6_1).f2.f1) ((rd_T39 l0 x6_1).f2.f2) ((rd_T39 l0 x6_1).f2.f3) ((rd_T39 l0 x6_1).f3.f0) ((rd_T39 l0 x6_1).f3.f1) ((rd_T39 l0 x6_1).f3.f2) ((rd_T39 l0 x6_1).f3.f3) ((rd_T39 l0 x6_1).f4.f0) ((rd_T39 l0 x6_1).f4.f1) ((rd_T39 l0 x6_1).f4.f2) ((rd_T39 l0 x6_1).f4.f3) ((rd_T39 l0 x6_1).f5) ((rd_T39 l1 x6_1).f0) ((rd_T39 l1 x6_1).f1) ((rd_T39 l1 x6_1).f2.f0) ((rd_T39 l1 x6_1).f2.f1) ((rd_T39 l1 x6_1).f2.f2) ((rd_T39 l1 x6_1).f2.f3) ((rd_T39 l1 x6_1).f3.f0) ((rd_T39 l1 x6_1).f3.f1) ((rd_T39 l1 x6_1).f3.f2) ((rd_T39 l1 x6_1).f3.f3) ((rd_T39 l1 x6_1).f4.f0) ((rd_T39 l1 x6_1).f4.f1) ((rd_T39 l1 x6_1).f4.f2) ((rd_T39 l1 x6_1).f4.f3) ((rd_T39 l1 x6_1).f5) t235 _ A7.out).mono ?_
       rintro e w12 ⟨rfl, hb⟩
       refine ⟨_, rfl, ?_⟩
       have n0_ := Aside0.mk (below_step (by repeat (first | (with_reducible first | exact HB.out | apply below_alloc | apply pw_below_drewN | apply below_drew1) | exact HB.out)) hb)
       clear HB
       have HB := n0_
       clear n0_
       (try clear hb)
       (try clear hb2)
       (try clear hk)
       (try clear hi)
       refine hK.out _ _ ⟨((HB.out.cell (World.block_lt_of_cell? w _ hw233_0)).trans hw233_0), ((HB.out.cell (World.block_lt_of_cell? w _ hw233_1)).trans hw233_1), ((HB.out.cell (World.block_lt_of_cell? w _ hw233_2)).trans hw233_2), ((HB.out.cell (World.block_lt_of_cell? w _ hw233_3)).trans hw233_3), ((HB.out.cell (World.block_lt_of_cell? w _ hw233_4)).trans hw233_4), ((HB.out.cell (World.block_lt_of_cell? w _ hw233_5)).trans hw233_5), ((HB.out.cell (World.block_lt_of_cell? w _ hw233_6)).trans hw233_6), ((HB.out.cell (World.block_lt_of_cell? w _ hw233_7)).trans hw233_7), ((HB.out.cell (World.block_lt_of_cell? w _ hw233_8)).trans hw233_8), ((HB.out.cell (World.block_lt_of_cell? w _ hw233_9)).trans hw233_9), ((HB.out.cell (World.block_lt_of_cell? w _ hw233_10)).trans hw233_10), ((HB.out.cell (World.block_lt_of_cell? w _ hw233_11)).trans hw233_11), ((HB.out.cell (World.block_lt_of_cell? w _ hw233_12)).trans hw233_12), ((HB.out.cell (World.block_lt_of_cell? w _ hw233_13)).trans hw233_13), ((HB.out.cell (World.block_lt_of_cell? w _ hw233_14)).trans hw233_14), ((HB.out.cell (World.block_lt_of_cell? w _ hw234_0)).trans hw234_0), ((HB.out.cell (World.block_lt_of_cell? w _ hw234_1)).trans hw234_1), ((HB.out.cell (World.block_lt_of_cell? w _ hw234_2)).trans hw234_2), ((HB.out.cell (World.block_lt_of_cell? w _ hw234_3)).trans hw234_3), ((HB.out.cell (World.block_lt_of_cell? w _ hw234_4)).trans hw234_4), ((HB.out.cell (World.block_lt_of_cell? w _ hw234_5)).trans hw234_5), ((HB.out.cell (World.block_lt_of_cell? w _ hw234_6)).trans hw234_6), ((HB.out.cell (World.block_lt_of_cell? w _ hw234_7)).trans hw234_7), ((HB.out.cell (World.block_lt_of_cell? w _ hw234_8)).trans hw234_8), ((HB.out.cell (World.block_lt_of_cell? w _ hw234_9)).trans hw234_9), ((HB.out.cell (World.block_lt_of_cell? w _ hw234_10)).trans hw234_10), ((HB.out.cell (World.block_lt_of_cell? w _ hw234_11)).trans hw234_11), ((HB.out.cell (World.block_lt_of_cell? w _ hw234_12)).trans hw234_12), ((HB.out.cell (World.block_lt_of_cell? w _ hw234_13)).trans hw234_13), ((HB.out.cell (World.block_lt_of_cell? w _ hw234_14)).trans hw234_14)⟩ (fun hHeld => ?_)
       clear hK K
       refine norm_ (a' := ?_) ?_ ?_
       rotate_left
       ·show Act.put _ (some 27) _ = _
        simp only [Act.put, List.setIfInBounds_toArray, List.set_cons_zero, List.set_cons_succ, i64_w, i32_w]
        rfl
       refine pure_ (i := 20) (N := some 28) (v := ?_) (a' := ?_) #[true, true, true, true, true, true, true, true, true, true, true, true, true, true, true, true, true, true, true, true, true] rfl rfl (any_of HT_.out (by kernel_rfl)) (fun _ _ _ h => h) (Or.inl ⟨by rfl, ?_⟩) ?_ ?_
       rotate_left
       ·intro w'
        go_simp
        with_reducible rfl
       rotate_left
       ·simp only [Act.put, List.setIfInBounds_toArray, List.set_cons_zero, List.set_cons_succ, i64_w, i32_w]
        rfl
       refine done_ (done_of HT_.out (by kernel_rfl)) ?_
       by_cases c8 : t235 = true
       ·have H := HM.out
        clear HM
        subst c8
        have H1 : (decoupageref29_Ends.l0 k1 l0 l1 (wrap64 (x6_1 + 1))) = some (r1, r2) := by rw [if_pos rfl] at H; exact H
        clear H
        have H := H1
        clear H1
        have H' := Aside0.mk H
        clear H
        try go_wp2
        go_roundg k1
        case measure => have := HK1.out; omega
        case rel => exact ⟨(wrap64 (x6_1 + 1)), (by first | rfl | (simp; done) | (simp [*]; done)), H', ⟨by have := HK1.out; omega⟩, ⟨by repeat (first | (with_reducible first | exact HB.out | apply below_alloc | apply pw_below_drewN | apply below_drew1) | exact HB.out)⟩⟩
       ·have H := HM.out
        clear HM
        replace c8 := Bool.eq_false_iff.mpr c8
        subst c8
        have H1 : (decoupageref29_Ends.j1 k1 l0 l1 x6_1) = some (r1, r2) := by rw [if_neg (show ¬ (false = true) by decide)] at H; exact H
        clear H
        have H := H1
        clear H1
        have H' := Aside0.mk H
        clear H
        try go_wp2
        go_meet
        case rel => exact ⟨_, (x6_1), (by first | rfl | (simp; done) | (simp [*]; done)), H', ⟨by have := HK1.out; first | omega | exact Nat.le_refl _⟩, ⟨by repeat (first | (with_reducible first | exact HB.out | apply below_alloc | apply pw_below_drewN | apply below_drew1) | exact HB.out)⟩⟩
      ·rw [if_neg c6] at H
       exact absurd H (by simp)
     ·rw [if_neg c5] at H
      have c5b0 : decide (x6_1 < (l1.length : Int)) = false := decide_eq_false c5
      clear c5
      have H' := Aside0.mk H
      clear H
      try go_wp2
      have n0_ := Aside0.mk (below_drew1 HB.out)
      clear HB
      have HB := n0_
      clear n0_
      refine start_ (n := 21) (S := fun w' => True) (ds := []) #[false, false, false, false, false, false, false, false, false, false, false, false, false, false, false, false, false, false, false, false, false] (by kernel_rfl) rfl rfl trivial (fun hHeld => ?_); refine with_tabW decoupageref29_Ends.tab2 decoupageref29_Ends.bits2 (fun HT_ HW_ => ?_)
      generalize wr.drew = w13 at HB hHeld ⊢
      refine pure_ (i := 0) (N := some 8) (v := ?_) (a' := ?_) #[true, false, false, false, false, false, false, false, false, false, false, false, false, false, false, false, false, false, false, false, false] rfl rfl (any_of HT_.out (by kernel_rfl)) (fun _ _ _ h => h) (Or.inl ⟨by rfl, ?_⟩) ?_ ?_
      rotate_left
      ·intro w'
       go_simp
       with_reducible rfl
      rotate_left
      ·simp only [Act.put, List.setIfInBounds_toArray, List.set_cons_zero, List.set_cons_succ, i64_w, i32_w]
       rfl
      refine pure_ (i := 1) (N := some 9) (v := ?_) (a' := ?_) #[true, true, false, false, false, false, false, false, false, false, false, false, false, false, false, false, false, false, false, false, false] rfl rfl (any_of HT_.out (by kernel_rfl)) (fun _ _ _ h => h) (Or.inl ⟨by rfl, ?_⟩) ?_ ?_
      rotate_left
      ·intro w'
       go_simp
       with_reducible rfl
      rotate_left
      ·simp only [Act.put, List.setIfInBounds_toArray, List.set_cons_zero, List.set_cons_succ, i64_w, i32_w]
       rfl
      refine pure_ (i := 2) (N := some 10) (v := ?_) (a' := ?_) #[true, true, true, false, false, false, false, false, false, false, false, false, false, false, false, false, false, false, false, false, false] rfl rfl (any_of HT_.out (by kernel_rfl)) (fun _ _ _ h => h) (Or.inl ⟨by rfl, ?_⟩) ?_ ?_
      rotate_left
      ·intro w'
       go_simp
       with_reducible rfl
      rotate_left
      ·simp only [Act.put, List.setIfInBounds_toArray, List.set_cons_zero, List.set_cons_succ, i64_w, i32_w]
       rfl
      refine pure_ (i := 3) (N := some 11) (v := ?_) (a' := ?_) #[true, true, true, true, false, false, false, false, false, false, false, false, false, false, false, false, false, false, false, false, false] rfl rfl (any_of HT_.out (by kernel_rfl)) (fun _ _ _ h => h) (Or.inl ⟨by rfl, ?_⟩) ?_ ?_
      rotate_left
      ·intro w'
       go_simp
       with_reducible rfl
      rotate_left
      ·simp only [Act.put, List.setIfInBounds_toArray, List.set_cons_zero, List.set_cons_succ, i64_w, i32_w]
       rfl
      refine pure_ (i := 4) (N := some 12) (v := ?_) (a' := ?_) #[true, true, true, true, true, false, false, false, false, false, false, false, false, false, false, false, false, false, false, false, false] rfl rfl (any_of HT_.out (by kernel_rfl)) (fun _ _ _ h => h) (Or.inl ⟨by rfl, ?_⟩) ?_ ?_
      rotate_left
      ·intro w'
       go_simp
       with_reducible rfl
      rotate_left
      ·simp only [Act.put, List.setIfInBounds_toArray, List.set_cons_zero, List.set_cons_succ, i64_w, i32_w]
       rfl
      refine pure_ (i := 5) (N := some 13) (v := ?_) (a' := ?_) #[true, true, true, true, true, true, false, false, false, false, false, false, false, false, false, false, false, false, false, false, false] rfl rfl (any_of HT_.out (by kernel_rfl)) (fun _ _ _ h => h) (Or.inl ⟨by rfl, ?_⟩) ?_ ?_
      rotate_left
      ·intro w'
       go_simp
       with_reducible rfl
      rotate_left
      ·simp only [Act.put, List.setIfInBounds_toArray, List.set_cons_zero, List.set_cons_succ, i64_w, i32_w]
       rfl
      refine pure_ (i := 6) (N := some 14) (v := ?_) (a' := ?_) #[true, true, true, true, true, true, true, false, false, false, false, false, false, false, false, false, false, false, false, false, false] rfl rfl (any_of HT_.out (by kernel_rfl)) (fun _ _ _ h => h) (Or.inl ⟨by rfl, ?_⟩) ?_ ?_
      rotate_left
      ·intro w'
       go_simp
       with_reducible rfl
      rotate_left
      ·simp only [Act.put, List.setIfInBounds_toArray, List.set_cons_zero, List.set_cons_succ, i64_w, i32_w]
       rfl
      refine pure_ (i := 7) (N := some 15) (v := ?_) (a' := ?_) #[true, true, true, true, true, true, true, true, false, false, false, false, false, false, false, false, false, false, false, false, false] rfl rfl (any_of HT_.out (by kernel_rfl)) (fun _ _ _ h => h) (Or.inl ⟨by rfl, ?_⟩) ?_ ?_
      rotate_left
      ·intro w'
       go_simp
       with_reducible rfl
      rotate_left
      ·simp only [Act.put, List.setIfInBounds_toArray, List.set_cons_zero, List.set_cons_succ, i64_w, i32_w]
       rfl
      refine pure_ (i := 8) (N := some 16) (v := ?_) (a' := ?_) #[true, true, true, true, true, true, true, true, true, false, false, false, false, false, false, false, false, false, false, false, false] rfl rfl (any_of HT_.out (by kernel_rfl)) (fun _ _ _ h => h) (Or.inl ⟨by rfl, ?_⟩) ?_ ?_
      rotate_left
      ·intro w'
       go_simp
       with_reducible rfl
      rotate_left
      ·simp only [Act.put, List.setIfInBounds_toArray, List.set_cons_zero, List.set_cons_succ, i64_w, i32_w]
       rfl
      refine pure_ (i := 9) (N := some 17) (v := ?_) (a' := ?_) #[true, true, true, true, true, true, true, true, true, true, false, false, false, false, false, false, false, false, false, false, false] rfl rfl (any_of HT_.out (by kernel_rfl)) (fun _ _ _ h => h) (Or.inl ⟨by rfl, ?_⟩) ?_ ?_
      rotate_left
      ·intro w'
       go_simp
       with_reducible rfl
      rotate_left
      ·simp only [Act.put, List.setIfInBounds_toArray, List.set_cons_zero, List.set_cons_succ, i64_w, i32_w]
       rfl
      refine pure_ (i := 10) (N := some 18) (v := ?_) (a' := ?_) #[true, true, true, true, true, true, true, true, true, true, true, false, false, false, false, false, false, false, false, false, false] rfl rfl (any_of HT_.out (by kernel_rfl)) (fun _ _ _ h => h) (Or.inl ⟨by rfl, ?_⟩) ?_ ?_
      rotate_left
      ·intro w'
       go_simp
       with_reducible rfl
      rotate_left
      ·simp only [Act.put, List.setIfInBounds_toArray, List.set_cons_zero, List.set_cons_succ, i64_w, i32_w]
       rfl
      refine pure_ (i := 11) (N := some 19) (v := undef) (a' := ?_) #[true, true, true, true, true, true, true, true, true, true, true, true, false, false, false, false, false, false, false, false, false] rfl rfl (any_of HT_.out (by kernel_rfl)) (fun _ _ _ h => h) (Or.inr ⟨by rfl, rfl⟩) ?_ ?_
      rotate_left
      ·simp only [Act.put, List.setIfInBounds_toArray, List.set_cons_zero, List.set_cons_succ, i64_w, i32_w]
       rfl
      refine pure_ (i := 12) (N := some 20) (v := undef) (a' := ?_) #[true, true, true, true, true, true, true, true, true, true, true, true, true, false, false, false, false, false, false, false, false] rfl rfl (any_of HT_.out (by kernel_rfl)) (fun _ _ _ h => h) (Or.inr ⟨by rfl, rfl⟩) ?_ ?_
      rotate_left
      ·simp only [Act.put, List.setIfInBounds_toArray, List.set_cons_zero, List.set_cons_succ, i64_w, i32_w]
       rfl
      refine pure_ (i := 13) (N := some 21) (v := undef) (a' := ?_) #[true, true, true, true, true, true, true, true, true, true, true, true, true, true, false, false, false, false, false, false, false] rfl rfl (any_of HT_.out (by kernel_rfl)) (fun _ _ _ h => h) (Or.inr ⟨by rfl, rfl⟩) ?_ ?_
      rotate_left
      ·simp only [Act.put, List.setIfInBounds_toArray, List.set_cons_zero, List.set_cons_succ, i64_w, i32_w]
       rfl
      refine pure_ (i := 14) (N := some 22) (v := undef) (a' := ?_) #[true, true, true, true, true, true, true, true, true, true, true, true, true, true, true, false, false, false, false, false, false] rfl rfl (any_of HT_.out (by kernel_rfl)) (fun _ _ _ h => h) (Or.inr ⟨by rfl, rfl⟩) ?_ ?_
      rotate_left
      ·simp only [Act.put, List.setIfInBounds_toArray, List.set_cons_zero, List.set_cons_succ, i64_w, i32_w]
       rfl
      refine pure_ (i := 15) (N := some 23) (v := undef) (a' := ?_) #[true, true, true, true, true, true, true, true, true, true, true, true, true, true, true, true, false, false, false, false, false] rfl rfl (any_of HT_.out (by kernel_rfl)) (fun _ _ _ h => h) (Or.inr ⟨by rfl, rfl⟩) ?_ ?_
      rotate_left
      ·simp only [Act.put, List.setIfInBounds_toArray, List.set_cons_zero, List.set_cons_succ, i64_w, i32_w]
       rfl
      refine pure_ (i := 16) (N := some 24) (v := undef) (a' := ?_) #[true, true, true, true, true, true, true, true, true, true, true, true, true, true, true, true, true, false, false, false, false] rfl rfl (any_of HT_.out (by kernel_rfl)) (fun _ _ _ h => h) (Or.inr ⟨by rfl, rfl⟩) ?_ ?_
      rotate_left
      ·simp only [Act.put, List.setIfInBounds_toArray, List.set_cons_zero, List.set_cons_succ, i64_w, i32_w]
       rfl
      refine pure_ (i := 17) (N := some 25) (v := undef) (a' := ?_) #[true, true, true, true, true, true, true, true, true, true, true, true, true, true, true, true, true, true, false, false, false] rfl rfl (any_of HT_.out (by kernel_rfl)) (fun _ _ _ h => h) (Or.inr ⟨by rfl, rfl⟩) ?_ ?_
      rotate_left
      ·simp only [Act.put, List.setIfInBounds_toArray, List.set_cons_zero, List.set_cons_succ, i64_w, i32_w]
       rfl
      refine pure_ (i := 18) (N := some 26) (v := undef) (a' := ?_) #[true, true, true, true, true, true, true, true, true, true, true, true, true, true, true, true, true, true, true, false, false] rfl rfl (any_of HT_.out (by kernel_rfl)) (fun _ _ _ h => h) (Or.inr ⟨by rfl, rfl⟩) ?_ ?_
      rotate_left
      ·simp only [Act.put, List.setIfInBounds_toArray, List.set_cons_zero, List.set_cons_succ, i64_w, i32_w]
       rfl
      refine pure_ (i := 19) (N := some 27) (v := undef) (a' := ?_) #[true, true, true, true, true, true, true, true, true, true, true, true, true, true, true, true, true, true, true, true, false] rfl rfl (any_of HT_.out (by kernel_rfl)) (fun _ _ _ h => h) (Or.inr ⟨by rfl, rfl⟩) ?_ ?_
      rotate_left
      ·simp only [Act.put, List.setIfInBounds_toArray, List.set_cons_zero, List.set_cons_succ, i64_w, i32_w]
       rfl
      refine pure_ (i := 20) (N := some 28) (v := ?_) (a' := ?_) #[true, true, true, true, true, true, true, true, true, true, true, true, true, true, true, true, true, true, true, true, true] rfl rfl (any_of HT_.out (by kernel_rfl)) (fun _ _ _ h => h) (Or.inl ⟨by rfl, ?_⟩) ?_ ?_
      rotate_left
      ·intro w'
       go_simp
       with_reducible rfl
      rotate_left
      ·simp only [Act.put, List.setIfInBounds_toArray, List.set_cons_zero, List.set_cons_succ, i64_w, i32_w]
       rfl
      refine done_ (done_of HT_.out (by kernel_rfl)) ?_
      try go_wp2
      go_meet
      case rel => exact ⟨_, (x6_1), (by first | rfl | (simp; done) | (simp [*]; done)), H', ⟨by have := HK1.out; first | omega | exact Nat.le_refl _⟩, ⟨by repeat (first | (with_reducible first | exact HB.out | apply below_alloc | apply pw_below_drewN | apply below_drew1) | exact HB.out)⟩⟩
    ·rw [if_neg c4] at H
     have c4b0 : decide (x6_1 < (l0.length : Int)) = false := decide_eq_false c4
     clear c4
     (first | rw [c4b0] | (simp only [i64_w, i32_w]; rw [c4b0]) | skip)
     have H' := Aside0.mk H
     clear H
     try go_wp2
     have n0_ := Aside0.mk (below_drew1 HB.out)
     clear HB
     have HB := n0_
     clear n0_
     refine start_ (n := 21) (S := fun w' => True) (ds := []) #[false, false, false, false, false, false, false, false, false, false, false, false, false, false, false, false, false, false, false, false, false] (by kernel_rfl) rfl rfl trivial (fun hHeld => ?_); refine with_tabW decoupageref29_Ends.tab2 decoupageref29_Ends.bits2 (fun HT_ HW_ => ?_)
     generalize wr.drew = w14 at HB hHeld ⊢
     refine pure_ (i := 0) (N := some 8) (v := ?_) (a' := ?_) #[true, false, false, false, false, false, false, false, false, false, false, false, false, false, false, false, false, false, false, false, false] rfl rfl (any_of HT_.out (by kernel_rfl)) (fun _ _ _ h => h) (Or.inl ⟨by rfl, ?_⟩) ?_ ?_
     rotate_left
     ·intro w'
      go_simp
      with_reducible rfl
     rotate_left
     ·simp only [Act.put, List.setIfInBounds_toArray, List.set_cons_zero, List.set_cons_succ, i64_w, i32_w]
      rfl
     refine pure_ (i := 1) (N := some 9) (v := ?_) (a' := ?_) #[true, true, false, false, false, false, false, false, false, false, false, false, false, false, false, false, false, false, false, false, false] rfl rfl (any_of HT_.out (by kernel_rfl)) (fun _ _ _ h => h) (Or.inl ⟨by rfl, ?_⟩) ?_ ?_
     rotate_left
     ·intro w'
      go_simp
      with_reducible rfl
     rotate_left
     ·simp only [Act.put, List.setIfInBounds_toArray, List.set_cons_zero, List.set_cons_succ, i64_w, i32_w]
      rfl
     refine pure_ (i := 2) (N := some 10) (v := ?_) (a' := ?_) #[true, true, true, false, false, false, false, false, false, false, false, false, false, false, false, false, false, false, false, false, false] rfl rfl (any_of HT_.out (by kernel_rfl)) (fun _ _ _ h => h) (Or.inl ⟨by rfl, ?_⟩) ?_ ?_
     rotate_left
     ·intro w'
      go_simp
      with_reducible rfl
     rotate_left
     ·simp only [Act.put, List.setIfInBounds_toArray, List.set_cons_zero, List.set_cons_succ, i64_w, i32_w]
      rfl
     refine pure_ (i := 3) (N := some 11) (v := ?_) (a' := ?_) #[true, true, true, true, false, false, false, false, false, false, false, false, false, false, false, false, false, false, false, false, false] rfl rfl (any_of HT_.out (by kernel_rfl)) (fun _ _ _ h => h) (Or.inl ⟨by rfl, ?_⟩) ?_ ?_
     rotate_left
     ·intro w'
      go_simp
      with_reducible rfl
     rotate_left
     ·simp only [Act.put, List.setIfInBounds_toArray, List.set_cons_zero, List.set_cons_succ, i64_w, i32_w]
      rfl
     refine pure_ (i := 4) (N := some 12) (v := ?_) (a' := ?_) #[true, true, true, true, true, false, false, false, false, false, false, false, false, false, false, false, false, false, false, false, false] rfl rfl (any_of HT_.out (by kernel_rfl)) (fun _ _ _ h => h) (Or.inl ⟨by rfl, ?_⟩) ?_ ?_
     rotate_left
     ·intro w'
      go_simp
      with_reducible rfl
     rotate_left
     ·simp only [Act.put, List.setIfInBounds_toArray, List.set_cons_zero, List.set_cons_succ, i64_w, i32_w]
      rfl
     refine pure_ (i := 5) (N := some 13) (v := undef) (a' := ?_) #[true, true, true, true, true, true, false, false, false, false, false, false, false, false, false, false, false, false, false, false, false] rfl rfl (any_of HT_.out (by kernel_rfl)) (fun _ _ _ h => h) (Or.inr ⟨by rfl, rfl⟩) ?_ ?_
     rotate_left
     ·simp only [Act.put, List.setIfInBounds_toArray, List.set_cons_zero, List.set_cons_succ, i64_w, i32_w]
      rfl
     refine pure_ (i := 6) (N := some 14) (v := undef) (a' := ?_) #[true, true, true, true, true, true, true, false, false, false, false, false, false, false, false, false, false, false, false, false, false] rfl rfl (any_of HT_.out (by kernel_rfl)) (fun _ _ _ h => h) (Or.inr ⟨by rfl, rfl⟩) ?_ ?_
     rotate_left
     ·simp only [Act.put, List.setIfInBounds_toArray, List.set_cons_zero, List.set_cons_succ, i64_w, i32_w]
      rfl
     refine pure_ (i := 7) (N := some 15) (v := undef) (a' := ?_) #[true, true, true, true, true, true, true, true, false, false, false, false, false, false, false, false, false, false, false, false, false] rfl rfl (any_of HT_.out (by kernel_rfl)) (fun _ _ _ h => h) (Or.inr ⟨by rfl, rfl⟩) ?_ ?_
     rotate_left
     ·simp only [Act.put, List.setIfInBounds_toArray, List.set_cons_zero, List.set_cons_succ, i64_w, i32_w]
      rfl
     refine pure_ (i := 8) (N := some 16) (v := undef) (a' := ?_) #[true, true, true, true, true, true, true, true, true, false, false, false, false, false, false, false, false, false, false, false, false] rfl rfl (any_of HT_.out (by kernel_rfl)) (fun _ _ _ h => h) (Or.inr ⟨by rfl, rfl⟩) ?_ ?_
     rotate_left
     ·simp only [Act.put, List.setIfInBounds_toArray, List.set_cons_zero, List.set_cons_succ, i64_w, i32_w]
      rfl
     refine pure_ (i := 9) (N := some 17) (v := ?_) (a' := ?_) #[true, true, true, true, true, true, true, true, true, true, false, false, false, false, false, false, false, false, false, false, false] rfl rfl (any_of HT_.out (by kernel_rfl)) (fun _ _ _ h => h) (Or.inl ⟨by rfl, ?_⟩) ?_ ?_
     rotate_left
     ·intro w'
      go_simp
      with_reducible rfl
     rotate_left
     ·simp only [Act.put, List.setIfInBounds_toArray, List.set_cons_zero, List.set_cons_succ, i64_w, i32_w]
      rfl
     refine pure_ (i := 10) (N := some 18) (v := ?_) (a' := ?_) #[true, true, true, true, true, true, true, true, true, true, true, false, false, false, false, false, false, false, false, false, false] rfl rfl (any_of HT_.out (by kernel_rfl)) (fun _ _ _ h => h) (Or.inl ⟨by rfl, ?_⟩) ?_ ?_
     rotate_left
     ·intro w'
      go_simp
      with_reducible rfl
     rotate_left
     ·simp only [Act.put, List.setIfInBounds_toArray, List.set_cons_zero, List.set_cons_succ, i64_w, i32_w]
      rfl
     refine pure_ (i := 11) (N := some 19) (v := undef) (a' := ?_) #[true, true, true, true, true, true, true, true, true, true, true, true, false, false, false, false, false, false, false, false, false] rfl rfl (any_of HT_.out (by kernel_rfl)) (fun _ _ _ h => h) (Or.inr ⟨by rfl, rfl⟩) ?_ ?_
     rotate_left
     ·simp only [Act.put, List.setIfInBounds_toArray, List.set_cons_zero, List.set_cons_succ, i64_w, i32_w]
      rfl
     refine pure_ (i := 12) (N := some 20) (v := undef) (a' := ?_) #[true, true, true, true, true, true, true, true, true, true, true, true, true, false, false, false, false, false, false, false, false] rfl rfl (any_of HT_.out (by kernel_rfl)) (fun _ _ _ h => h) (Or.inr ⟨by rfl, rfl⟩) ?_ ?_
     rotate_left
     ·simp only [Act.put, List.setIfInBounds_toArray, List.set_cons_zero, List.set_cons_succ, i64_w, i32_w]
      rfl
     refine pure_ (i := 13) (N := some 21) (v := undef) (a' := ?_) #[true, true, true, true, true, true, true, true, true, true, true, true, true, true, false, false, false, false, false, false, false] rfl rfl (any_of HT_.out (by kernel_rfl)) (fun _ _ _ h => h) (Or.inr ⟨by rfl, rfl⟩) ?_ ?_
     rotate_left
     ·simp only [Act.put, List.setIfInBounds_toArray, List.set_cons_zero, List.set_cons_succ, i64_w, i32_w]
      rfl
     refine pure_ (i := 14) (N := some 22) (v := undef) (a' := ?_) #[true, true, true, true, true, true, true, true, true, true, true, true, true, true, true, false, false, false, false, false, false] rfl rfl (any_of HT_.out (by kernel_rfl)) (fun _ _ _ h => h) (Or.inr ⟨by rfl, rfl⟩) ?_ ?_
     rotate_left
     ·simp only [Act.put, List.setIfInBounds_toArray, List.set_cons_zero, List.set_cons_succ, i64_w, i32_w]
      rfl
     refine pure_ (i := 15) (N := some 23) (v := undef) (a' := ?_) #[true, true, true, true, true, true, true, true, true, true, true, true, true, true, true, true, false, false, false, false, false] rfl rfl (any_of HT_.out (by kernel_rfl)) (fun _ _ _ h => h) (Or.inr ⟨by rfl, rfl⟩) ?_ ?_
     rotate_left
     ·simp only [Act.put, List.setIfInBounds_toArray, List.set_cons_zero, List.set_cons_succ, i64_w, i32_w]
      rfl
     refine pure_ (i := 16) (N := some 24) (v := undef) (a' := ?_) #[true, true, true, true, true, true, true, true, true, true, true, true, true, true, true, true, true, false, false, false, false] rfl rfl (any_of HT_.out (by kernel_rfl)) (fun _ _ _ h => h) (Or.inr ⟨by rfl, rfl⟩) ?_ ?_
     rotate_left
     ·simp only [Act.put, List.setIfInBounds_toArray, List.set_cons_zero, List.set_cons_succ, i64_w, i32_w]
      rfl
     refine pure_ (i := 17) (N := some 25) (v := undef) (a' := ?_) #[true, true, true, true, true, true, true, true, true, true, true, true, true, true, true, true, true, true, false, false, false] rfl rfl (any_of HT_.out (by kernel_rfl)) (fun _ _ _ h => h) (Or.inr ⟨by rfl, rfl⟩) ?_ ?_
     rotate_left
     ·simp only [Act.put, List.setIfInBounds_toArray, List.set_cons_zero, List.set_cons_succ, i64_w, i32_w]
      rfl
     refine pure_ (i := 18) (N := some 26) (v := undef) (a' := ?_) #[true, true, true, true, true, true, true, true, true, true, true, true, true, true, true, true, true, true, true, false, false] rfl rfl (any_of HT_.out (by kernel_rfl)) (fun _ _ _ h => h) (Or.inr ⟨by rfl, rfl⟩) ?_ ?_
     rotate_left
     ·simp only [Act.put, List.setIfInBounds_toArray, List.set_cons_zero, List.set_cons_succ, i64_w, i32_w]
      rfl
     refine pure_ (i := 19) (N := some 27) (v := undef) (a' := ?_) #[true, true, true, true, true, true, true, true, true, true, true, true, true, true, true, true, true, true, true, true, false] rfl rfl (any_of HT_.out (by kernel_rfl)) (fun _ _ _ h => h) (Or.inr ⟨by rfl, rfl⟩) ?_ ?_
     rotate_left
     ·simp only [Act.put, List.setIfInBounds_toArray, List.set_cons_zero, List.set_cons_succ, i64_w, i32_w]
      rfl
     refine pure_ (i := 20) (N := some 28) (v := ?_) (a' := ?_) #[true, true, true, true, true, true, true, true, true, true, true, true, true, true, true, true, true, true, true, true, true] rfl rfl (any_of HT_.out (by kernel_rfl)) (fun _ _ _ h => h) (Or.inl ⟨by rfl, ?_⟩) ?_ ?_
     rotate_left
     ·intro w'
      go_simp
      with_reducible rfl
     rotate_left
     ·simp only [Act.put, List.setIfInBounds_toArray, List.set_cons_zero, List.set_cons_succ, i64_w, i32_w]
      rfl
     refine done_ (done_of HT_.out (by kernel_rfl)) ?_
     try go_wp2
     go_meet
     case rel => exact ⟨_, (x6_1), (by first | rfl | (simp; done) | (simp [*]; done)), H', ⟨by have := HK1.out; first | omega | exact Nat.le_refl _⟩, ⟨by repeat (first | (with_reducible first | exact HB.out | apply below_alloc | apply pw_below_drewN | apply below_drew1) | exact HB.out)⟩⟩
 case rest =>
  as_aux_lemma =>
   clear HC3
   try clear c2
   try clear p2
   try clear q2
   try clear hx2
   try clear c4
   try clear c4b0
   try clear c5
   try clear c5b0
   try clear c6
   try clear p6
   try clear c8
   try clear hx233_0
   try clear hx233_1
   try clear hx233_10
   try clear hx233_11
   try clear hx233_12
   try clear hx233_13
   try clear hx233_14
   try clear hx233_2
   try clear hx233_3
   try clear hx233_4
   try clear hx233_5
   try clear hx233_6
   try clear hx233_7
   try clear hx233_8
   try clear hx233_9
   try clear hx234_0
   try clear hx234_1
   try clear hx234_10
   try clear hx234_11
   try clear hx234_12
   try clear hx234_13
   try clear hx234_14
   try clear hx234_2
   try clear hx234_3
   try clear hx234_4
   try clear hx234_5
   try clear hx234_6
   try clear hx234_7
   try clear hx234_8
   try clear hx234_9
   try clear p233
   try clear p234
   try clear q233
   try clear q234
   obtain ⟨kq, x6_2, rfl, HA, HJ2, HB⟩ := hcut
   cases kq with
   | zero => exact absurd HA.out (by simp [decoupageref29_Ends.j1])
   | succ kj2 =>
    have H := HA.out
    clear HA
    simp only [decoupageref29_Ends.j1] at H
    have H' := Aside0.mk H
    clear H
    go_wp2
    go_loopg [7] kj2 (fun kq v7 w' => ∃ (x7_2 : Int), v7 = .int .i64 x7_2 ∧ Aside0 (decoupageref29_Ends.l1 kq l0 l1 x6_2 x7_2 = some (r1, r2)) ∧ Aside0 (kq ≤ kj2) ∧ Aside0 (Below w.heap.size w w'))
    case atStart => exact ⟨(0), (by first | rfl | (simp; done) | (simp [*]; done)), H', ⟨Nat.le_refl _⟩, ⟨by repeat (first | (with_reducible first | exact HB.out | apply below_alloc | apply pw_below_drewN | apply below_drew1) | exact HB.out)⟩⟩
    case round =>
     clear H'
     try clear c2
     try clear p2
     try clear q2
     try clear hx2
     try clear c4
     try clear c4b0
     try clear c5
     try clear c5b0
     try clear c6
     try clear p6
     try clear c8
     try clear hx233_0
     try clear hx233_1
     try clear hx233_10
     try clear hx233_11
     try clear hx233_12
     try clear hx233_13
     try clear hx233_14
     try clear hx233_2
     try clear hx233_3
     try clear hx233_4
     try clear hx233_5
     try clear hx233_6
     try clear hx233_7
     try clear hx233_8
     try clear hx233_9
     try clear hx234_0
     try clear hx234_1
     try clear hx234_10
     try clear hx234_11
     try clear hx234_12
     try clear hx234_13
     try clear hx234_14
     try clear hx234_2
     try clear hx234_3
     try clear hx234_4
     try clear hx234_5
     try clear hx234_6
     try clear hx234_7
     try clear hx234_8
     try clear hx234_9
     try clear p2
     try clear p233
     try clear p234
     try clear p6
     try clear q2
     try clear q233
     try clear q234
     obtain ⟨x7_2, rfl, HA, HK2, HB⟩ := hrel
     cases gk with
     | zero => exact absurd HA.out (by simp [decoupageref29_Ends.l1])
     | succ k2 =>
      have H := HA.out
      clear HA
      simp only [decoupageref29_Ends.l1] at H
      by_cases c15 : x7_2 < (wrap64 ((l0.length : Int) - x6_2))
      ·rw [if_pos c15] at H
       have c15b0 : decide (x7_2 < (wrap64 ((l0.length : Int) - x6_2))) = true := decide_eq_true c15
       clear c15
       by_cases c16 : x7_2 < (wrap64 ((l1.length : Int) - x6_2))
       ·rw [if_pos c16] at H
        have c16b0 : decide (x7_2 < (wrap64 ((l1.length : Int) - x6_2))) = true := decide_eq_true c16
        clear c16
        obtain ⟨ji17, hji17⟩ : ∃ j_ : Int, (wrap64 ((wrap64 ((l0.length : Int) - 1)) - x7_2)) = j_ := ⟨_, rfl⟩
        replace H : (if 0 ≤ (ji17) then (if (ji17) < (l0.length : Int) then (if 0 ≤ (wrap64 ((wrap64 ((l1.length : Int) - 1)) - x7_2)) then (if (wrap64 ((wrap64 ((l1.length : Int) - 1)) - x7_2)) < (l1.length : Int) then ((decoupageref29_Alike.f ((rd_T39 l0 (ji17)).f0) ((rd_T39 l0 (ji17)).f1) ((rd_T39 l0 (ji17)).f2.f0) ((rd_T39 l0 (ji17)).f2.f1) ((rd_T39 l0 (ji17)).f2.f2) ((rd_T39 l0 (ji17)).f2.f3) ((rd_T39 l0 (ji17)).f3.f0) ((rd_T39 l0 (ji17)).f3.f1) ((rd_T39 l0 (ji17)).f3.f2) ((rd_T39 l0 (ji17)).f3.f3) ((rd_T39 l0 (ji17)).f4.f0) ((rd_T39 l0 (ji17)).f4.f1) ((rd_T39 l0 (ji17)).f4.f2) ((rd_T39 l0 (ji17)).f4.f3) ((rd_T39 l0 (ji17)).f5) ((rd_T39 l1 (wrap64 ((wrap64 ((l1.length : Int) - 1)) - x7_2))).f0) ((rd_T39 l1 (wrap64 ((wrap64 ((l1.length : Int) - 1)) - x7_2))).f1) ((rd_T39 l1 (wrap64 ((wrap64 ((l1.length : Int) - 1)) - x7_2))).f2.f0) ((rd_T39 l1 (wrap64 ((wrap64 ((l1.length : Int) - 1)) - x7_2))).f2.f1) ((rd_T39 l1 (wrap64 ((wrap64 ((l1.length : Int) - 1)) - x7_2))).f2.f2) ((rd_T39 l1 (wrap64 ((wrap64 ((l1.length : Int) - 1)) - x7_2))).f2.f3) ((rd_T39 l1 (wrap64 ((wrap64 ((l1.length : Int) - 1)) - x7_2))).f3.f0) ((rd_T39 l1 (wrap64 ((wrap64 ((l1.length : Int) - 1)) - x7_2))).f3.f1) ((rd_T39 l1 (wrap64 ((wrap64 ((l1.length : Int) - 1)) - x7_2))).f3.f2) ((rd_T39 l1 (wrap64 ((wrap64 ((l1.length : Int) - 1)) - x7_2))).f3.f3) ((rd_T39 l1 (wrap64 ((wrap64 ((l1.length : Int) - 1)) - x7_2))).f4.f0) ((rd_T39 l1 (wrap64 ((wrap64 ((l1.length : Int) - 1)) - x7_2))).f4.f1) ((rd_T39 l1 (wrap64 ((wrap64 ((l1.length : Int) - 1)) - x7_2))).f4.f2) ((rd_T39 l1 (wrap64 ((wrap64 ((l1.length : Int) - 1)) - x7_2))).f4.f3) ((rd_T39 l1 (wrap64 ((wrap64 ((l1.length : Int) - 1)) - x7_2))).f5)).bind fun t238 => (if t238 = true then (decoupageref29_Ends.l1 k2 l0 l1 x6_2 (wrap64 (x7_2 + 1))) else (some (x6_2, x7_2)))) else (none)) else (none)) else (none)) else (none)) = some (r1, r2) := by first | (rw [hji17] at H; exact H) | (simp only [hji17] at H ⊢; exact H)
        have hji17w : (IntKind.i64.wrap ((wrap64 ((l0.length : Int) - 1)) - x7_2)) = ji17 := (i64_w _).trans hji17
        by_cases c18 : 0 ≤ (ji17)
        ·rw [if_pos c18] at H
         have c18b0 : decide (0 ≤ (ji17)) = true := decide_eq_true c18
         clear c18
         by_cases c19 : (ji17) < (l0.length : Int)
         ·rw [if_pos c19] at H
          have c19b0 : decide ((ji17) < (l0.length : Int)) = true := decide_eq_true c19
          clear c19
          obtain ⟨ji20, hji20⟩ : ∃ j_ : Int, (wrap64 ((wrap64 ((l1.length : Int) - 1)) - x7_2)) = j_ := ⟨_, rfl⟩
          replace H : (if 0 ≤ (ji20) then (if (ji20) < (l1.length : Int) then ((decoupageref29_Alike.f ((rd_T39 l0 (ji17)).f0) ((rd_T39 l0 (ji17)).f1) ((rd_T39 l0 (ji17)).f2.f0) ((rd_T39 l0 (ji17)).f2.f1) ((rd_T39 l0 (ji17)).f2.f2) ((rd_T39 l0 (ji17)).f2.f3) ((rd_T39 l0 (ji17)).f3.f0) ((rd_T39 l0 (ji17)).f3.f1) ((rd_T39 l0 (ji17)).f3.f2) ((rd_T39 l0 (ji17)).f3.f3) ((rd_T39 l0 (ji17)).f4.f0) ((rd_T39 l0 (ji17)).f4.f1) ((rd_T39 l0 (ji17)).f4.f2) ((rd_T39 l0 (ji17)).f4.f3) ((rd_T39 l0 (ji17)).f5) ((rd_T39 l1 (ji20)).f0) ((rd_T39 l1 (ji20)).f1) ((rd_T39 l1 (ji20)).f2.f0) ((rd_T39 l1 (ji20)).f2.f1) ((rd_T39 l1 (ji20)).f2.f2) ((rd_T39 l1 (ji20)).f2.f3) ((rd_T39 l1 (ji20)).f3.f0) ((rd_T39 l1 (ji20)).f3.f1) ((rd_T39 l1 (ji20)).f3.f2) ((rd_T39 l1 (ji20)).f3.f3) ((rd_T39 l1 (ji20)).f4.f0) ((rd_T39 l1 (ji20)).f4.f1) ((rd_T39 l1 (ji20)).f4.f2) ((rd_T39 l1 (ji20)).f4.f3) ((rd_T39 l1 (ji20)).f5)).bind fun t238 => (if t238 = true then (decoupageref29_Ends.l1 k2 l0 l1 x6_2 (wrap64 (x7_2 + 1))) else (some (x6_2, x7_2)))) else (none)) else (none)) = some (r1, r2) := by first | (rw [hji20] at H; exact H) | (simp only [hji20] at H ⊢; exact H)
          have hji20w : (IntKind.i64.wrap ((wrap64 ((l1.length : Int) - 1)) - x7_2)) = ji20 := (i64_w _).trans hji20
          by_cases c21 : 0 ≤ (ji20)
          ·rw [if_pos c21] at H
           have c21b0 : decide (0 ≤ (ji20)) = true := decide_eq_true c21
           clear c21
           by_cases c22 : (ji20) < (l1.length : Int)
           ·rw [if_pos c22] at H
            have c22b0 : decide ((ji20) < (l1.length : Int)) = true := decide_eq_true c22
            clear c22
            replace H := Option.bind_eq_some_iff.mp H
            obtain ⟨t238, A230, H⟩ := H
            replace H : (if t238 = true then (decoupageref29_Ends.l1 k2 l0 l1 x6_2 (wrap64 (x7_2 + 1))) else (some (x6_2, x7_2))) = some (r1, r2) := H
            have A23 := Aside0.mk A230
            clear A230
            have HM := Aside0.mk H
            clear H
            try go_wp2
            have n0_ := Aside0.mk (below_drew1 HB.out)
            clear HB
            have HB := n0_
            clear n0_
            have p236 : 0 ≤ ((ji17) : Int) := of_decide_eq_true (by first | (with_reducible assumption) | assumption)
            have q236 : (ji17) < (l0.length : Int) := of_decide_eq_true (by first | (with_reducible assumption) | assumption)
            obtain ⟨ad236, e236, hx236_0, hx236_1, hx236_2, hx236_3, hx236_4, hx236_5, hx236_6, hx236_7, hx236_8, hx236_9, hx236_10, hx236_11, hx236_12, hx236_13, hx236_14⟩ := at_T39 HR0.out (ji17) p236 q236
            have hw236_14 := hx236_14
            have hw236_13 := hx236_13
            have hw236_12 := hx236_12
            have hw236_11 := hx236_11
            have hw236_10 := hx236_10
            have hw236_9 := hx236_9
            have hw236_8 := hx236_8
            have hw236_7 := hx236_7
            have hw236_6 := hx236_6
            have hw236_5 := hx236_5
            have hw236_4 := hx236_4
            have hw236_3 := hx236_3
            have hw236_2 := hx236_2
            have hw236_1 := hx236_1
            have hw236_0 := hx236_0
            cases e236
            replace hx236_0 := (HB.out.cell (World.block_lt_of_cell? w _ hx236_0)).trans hx236_0
            replace hx236_1 := (HB.out.cell (World.block_lt_of_cell? w _ hx236_1)).trans hx236_1
            replace hx236_2 := (HB.out.cell (World.block_lt_of_cell? w _ hx236_2)).trans hx236_2
            replace hx236_3 := (HB.out.cell (World.block_lt_of_cell? w _ hx236_3)).trans hx236_3
            replace hx236_4 := (HB.out.cell (World.block_lt_of_cell? w _ hx236_4)).trans hx236_4
            replace hx236_5 := (HB.out.cell (World.block_lt_of_cell? w _ hx236_5)).trans hx236_5
            replace hx236_6 := (HB.out.cell (World.block_lt_of_cell? w _ hx236_6)).trans hx236_6
            replace hx236_7 := (HB.out.cell (World.block_lt_of_cell? w _ hx236_7)).trans hx236_7
            replace hx236_8 := (HB.out.cell (World.block_lt_of_cell? w _ hx236_8)).trans hx236_8
            replace hx236_9 := (HB.out.cell (World.block_lt_of_cell? w _ hx236_9)).trans hx236_9
            replace hx236_10 := (HB.out.cell (World.block_lt_of_cell? w _ hx236_10)).trans hx236_10
            replace hx236_11 := (HB.out.cell (World.block_lt_of_cell? w _ hx236_11)).trans hx236_11
            replace hx236_12 := (HB.out.cell (World.block_lt_of_cell? w _ hx236_12)).trans hx236_12
            replace hx236_13 := (HB.out.cell (World.block_lt_of_cell? w _ hx236_13)).trans hx236_13
            replace hx236_14 := (HB.out.cell (World.block_lt_of_cell? w _ hx236_14)).trans hx236_14
            replace p236 := eq_true p236
            replace q236 := eq_true q236
            have p237 : 0 ≤ ((ji20) : Int) := of_decide_eq_true (by first | (with_reducible assumption) | assumption)
            have q237 : (ji20) < (l1.length : Int) := of_decide_eq_true (by first | (with_reducible assumption) | assumption)
            obtain ⟨ad237, e237, hx237_0, hx237_1, hx237_2, hx237_3, hx237_4, hx237_5, hx237_6, hx237_7, hx237_8, hx237_9, hx237_10, hx237_11, hx237_12, hx237_13, hx237_14⟩ := at_T39 HR1.out (ji20) p237 q237
            have hw237_14 := hx237_14
            have hw237_13 := hx237_13
            have hw237_12 := hx237_12
            have hw237_11 := hx237_11
            have hw237_10 := hx237_10
            have hw237_9 := hx237_9
            have hw237_8 := hx237_8
            have hw237_7 := hx237_7
            have hw237_6 := hx237_6
            have hw237_5 := hx237_5
            have hw237_4 := hx237_4
            have hw237_3 := hx237_3
            have hw237_2 := hx237_2
            have hw237_1 := hx237_1
            have hw237_0 := hx237_0
            cases e237
            replace hx237_0 := (HB.out.cell (World.block_lt_of_cell? w _ hx237_0)).trans hx237_0
            replace hx237_1 := (HB.out.cell (World.block_lt_of_cell? w _ hx237_1)).trans hx237_1
            replace hx237_2 := (HB.out.cell (World.block_lt_of_cell? w _ hx237_2)).trans hx237_2
            replace hx237_3 := (HB.out.cell (World.block_lt_of_cell? w _ hx237_3)).trans hx237_3
            replace hx237_4 := (HB.out.cell (World.block_lt_of_cell? w _ hx237_4)).trans hx237_4
            replace hx237_5 := (HB.out.cell (World.block_lt_of_cell? w _ hx237_5)).trans hx237_5
            replace hx237_6 := (HB.out.cell (World.block_lt_of_cell? w _ hx237_6)).trans hx237_6
            replace hx237_7 := (HB.out.cell (World.block_lt_of_cell? w _ hx237_7)).trans hx237_7
            replace hx237_8 := (HB.out.cell (World.block_lt_of_cell? w _ hx237_8)).trans hx237_8
            replace hx237_9 := (HB.out.cell (World.block_lt_of_cell? w _ hx237_9)).trans hx237_9
            replace hx237_10 := (HB.out.cell (World.block_lt_of_cell? w _ hx237_10)).trans hx237_10
            replace hx237_11 := (HB.out.cell (World.block_lt_of_cell? w _ hx237_11)).trans hx237_11
            replace hx237_12 := (HB.out.cell (World.block_lt_of_cell? w _ hx237_12)).trans hx237_12
            replace hx237_13 := (HB.out.cell (World.block_lt_of_cell? w _ hx237_13)).trans hx237_13
            replace hx237_14 := (HB.out.cell (World.block_lt_of_cell? w _ hx237_14)).trans hx237_14
            replace p237 := eq_true p237
            replace q237 := eq_true q237
            refine start_ (n := 33) (S := fun w' => w'.cell? (ad236.add (((ji17)).toNat * 15)) = some (.int .i64 ((rd_T39 l0 (ji17)).f0)) ∧ w'.cell? ⟨(ad236.add (((ji17)).toNat * 15)).block, (ad236.add (((ji17)).toNat * 15)).off + 1, none⟩ = some (.int .i64 ((rd_T39 l0 (ji17)).f1)) ∧ w'.cell? ⟨(ad236.add (((ji17)).toNat * 15)).block, (ad236.add (((ji17)).toNat * 15)).off + 2, none⟩ = some (.int .i64 ((rd_T39 l0 (ji17)).f2.f0)) ∧ w'.cell? ⟨(ad236.add (((ji17)).toNat * 15)).block, (ad236.add (((ji17)).toNat * 15)).off + 3, none⟩ = some (.int .i64 ((rd_T39 l0 (ji17)).f2.f1)) ∧ w'.cell? ⟨(ad236.add (((ji17)).toNat * 15)).block, (ad236.add (((ji17)).toNat * 15)).off + 4, none⟩ = some (.int .i64 ((rd_T39 l0 (ji17)).f2.f2)) ∧ w'.cell? ⟨(ad236.add (((ji17)).toNat * 15)).block, (ad236.add (((ji17)).toNat * 15)).off + 5, none⟩ = some (.int .i64 ((rd_T39 l0 (ji17)).f2.f3)) ∧ w'.cell? ⟨(ad236.add (((ji17)).toNat * 15)).block, (ad236.add (((ji17)).toNat * 15)).off + 6, none⟩ = some (.int .i64 ((rd_T39 l0 (ji17)).f3.f0)) ∧ w'.cell? ⟨(ad236.add (((ji17)).toNat * 15)).block, (ad236.add (((ji17)).toNat * 15)).off + 7, none⟩ = some (.int .i64 ((rd_T39 l0 (ji17)).f3.f1)) ∧ w'.cell? ⟨(ad236.add (((ji17)).toNat * 15)).block, (ad236.add (((ji17)).toNat * 15)).off + 8, none⟩ = some (.int .i64 ((rd_T39 l0 (ji17)).f3.f2)) ∧ w'.cell? ⟨(ad236.add (((ji17)).toNat * 15)).block, (ad236.add (((ji17)).toNat * 15)).off + 9, none⟩ = some (.int .i64 ((rd_T39 l0 (ji17)).f3.f3)) ∧ w'.cell? ⟨(ad236.add (((ji17)).toNat * 15)).block, (ad236.add (((ji17)).toNat * 15)).off + 10, none⟩ = some (.int .i64 ((rd_T39 l0 (ji17)).f4.f0)) ∧ w'.cell? ⟨(ad236.add (((ji17)).toNat * 15)).block, (ad236.add (((ji17)).toNat * 15)).off + 11, none⟩ = some (.int .i64 ((rd_T39 l0 (ji17)).f4.f1)) ∧ w'.cell? ⟨(ad236.add (((ji17)).toNat * 15)).block, (ad236.add (((ji17)).toNat * 15)).off + 12, none⟩ = some (.int .i64 ((rd_T39 l0 (ji17)).f4.f2)) ∧ w'.cell? ⟨(ad236.add (((ji17)).toNat * 15)).block, (ad236.add (((ji17)).toNat * 15)).off + 13, none⟩ = some (.int .i64 ((rd_T39 l0 (ji17)).f4.f3)) ∧ w'.cell? ⟨(ad236.add (((ji17)).toNat * 15)).block, (ad236.add (((ji17)).toNat * 15)).off + 14, none⟩ = some (.int .i64 ((rd_T39 l0 (ji17)).f5)) ∧ w'.cell? (ad237.add (((ji20)).toNat * 15)) = some (.int .i64 ((rd_T39 l1 (ji20)).f0)) ∧ w'.cell? ⟨(ad237.add (((ji20)).toNat * 15)).block, (ad237.add (((ji20)).toNat * 15)).off + 1, none⟩ = some (.int .i64 ((rd_T39 l1 (ji20)).f1)) ∧ w'.cell? ⟨(ad237.add (((ji20)).toNat * 15)).block, (ad237.add (((ji20)).toNat * 15)).off + 2, none⟩ = some (.int .i64 ((rd_T39 l1 (ji20)).f2.f0)) ∧ w'.cell? ⟨(ad237.add (((ji20)).toNat * 15)).block, (ad237.add (((ji20)).toNat * 15)).off + 3, none⟩ = some (.int .i64 ((rd_T39 l1 (ji20)).f2.f1)) ∧ w'.cell? ⟨(ad237.add (((ji20)).toNat * 15)).block, (ad237.add (((ji20)).toNat * 15)).off + 4, none⟩ = some (.int .i64 ((rd_T39 l1 (ji20)).f2.f2)) ∧ w'.cell? ⟨(ad237.add (((ji20)).toNat * 15)).block, (ad237.add (((ji20)).toNat * 15)).off + 5, none⟩ = some (.int .i64 ((rd_T39 l1 (ji20)).f2.f3)) ∧ w'.cell? ⟨(ad237.add (((ji20)).toNat * 15)).block, (ad237.add (((ji20)).toNat * 15)).off + 6, none⟩ = some (.int .i64 ((rd_T39 l1 (ji20)).f3.f0)) ∧ w'.cell? ⟨(ad237.add (((ji20)).toNat * 15)).block, (ad237.add (((ji20)).toNat * 15)).off + 7, none⟩ = some (.int .i64 ((rd_T39 l1 (ji20)).f3.f1)) ∧ w'.cell? ⟨(ad237.add (((ji20)).toNat * 15)).block, (ad237.add (((ji20)).toNat * 15)).off + 8, none⟩ = some (.int .i64 ((rd_T39 l1 (ji20)).f3.f2)) ∧ w'.cell? ⟨(ad237.add (((ji20)).toNat * 15)).block, (ad237.add (((ji20)).toNat * 15)).off + 9, none⟩ = some (.int .i64 ((rd_T39 l1 (ji20)).f3.f3)) ∧ w'.cell? ⟨(ad237.add (((ji20)).toNat * 15)).block, (ad237.add (((ji20)).toNat * 15)).off + 10, none⟩ = some (.int .i64 ((rd_T39 l1 (ji20)).f4.f0)) ∧ w'.cell? ⟨(ad237.add (((ji20)).toNat * 15)).block, (ad237.add (((ji20)).toNat * 15)).off + 11, none⟩ = some (.int .i64 ((rd_T39 l1 (ji20)).f4.f1)) ∧ w'.cell? ⟨(ad237.add (((ji20)).toNat * 15)).block, (ad237.add (((ji20)).toNat * 15)).off + 12, none⟩ = some (.int .i64 ((rd_T39 l1 (ji20)).f4.f2)) ∧ w'.cell? ⟨(ad237.add (((ji20)).toNat * 15)).block, (ad237.add (((ji20)).toNat * 15)).off + 13, none⟩ = some (.int .i64 ((rd_T39 l1 (ji20)).f4.f3)) ∧ w'.cell? ⟨(ad237.add (((ji20)).toNat * 15)).block, (ad237.add (((ji20)).toNat * 15)).off + 14, none⟩ = some (.int .i64 ((rd_T39 l1 (ji20)).f5))) (ds := []) #[false, false, false, false, false, false, false, false, false, false, false, false, false, false, false, false, false, false, false, false, false, false, false, false, false, false, false, false, false, false, false, false, false] (by kernel_rfl) rfl rfl ⟨((HB.out.cell (World.block_lt_of_cell? w _ hw236_0)).trans hw236_0), ((HB.out.cell (World.block_lt_of_cell? w _ hw236_1)).trans hw236_1), ((HB.out.cell (World.block_lt_of_cell? w _ hw236_2)).trans hw236_2), ((HB.out.cell (World.block_lt_of_cell? w _ hw236_3)).trans hw236_3), ((HB.out.cell (World.block_lt_of_cell? w _ hw236_4)).trans hw236_4), ((HB.out.cell (World.block_lt_of_cell? w _ hw236_5)).trans hw236_5), ((HB.out.cell (World.block_lt_of_cell? w _ hw236_6)).trans hw236_6), ((HB.out.cell (World.block_lt_of_cell? w _ hw236_7)).trans hw236_7), ((HB.out.cell (World.block_lt_of_cell? w _ hw236_8)).trans hw236_8), ((HB.out.cell (World.block_lt_of_cell? w _ hw236_9)).trans hw236_9), ((HB.out.cell (World.block_lt_of_cell? w _ hw236_10)).trans hw236_10), ((HB.out.cell (World.block_lt_of_cell? w _ hw236_11)).trans hw236_11), ((HB.out.cell (World.block_lt_of_cell? w _ hw236_12)).trans hw236_12), ((HB.out.cell (World.block_lt_of_cell? w _ hw236_13)).trans hw236_13), ((HB.out.cell (World.block_lt_of_cell? w _ hw236_14)).trans hw236_14), ((HB.out.cell (World.block_lt_of_cell? w _ hw237_0)).trans hw237_0), ((HB.out.cell (World.block_lt_of_cell? w _ hw237_1)).trans hw237_1), ((HB.out.cell (World.block_lt_of_cell? w _ hw237_2)).trans hw237_2), ((HB.out.cell (World.block_lt_of_cell? w _ hw237_3)).trans hw237_3), ((HB.out.cell (World.block_lt_of_cell? w _ hw237_4)).trans hw237_4), ((HB.out.cell (World.block_lt_of_cell? w _ hw237_5)).trans hw237_5), ((HB.out.cell (World.block_lt_of_cell? w _ hw237_6)).trans hw237_6), ((HB.out.cell (World.block_lt_of_cell? w _ hw237_7)).trans hw237_7), ((HB.out.cell (World.block_lt_of_cell? w _ hw237_8)).trans hw237_8), ((HB.out.cell (World.block_lt_of_cell? w _ hw237_9)).trans hw237_9), ((HB.out.cell (World.block_lt_of_cell? w _ hw237_10)).trans hw237_10), ((HB.out.cell (World.block_lt_of_cell? w _ hw237_11)).trans hw237_11), ((HB.out.cell (World.block_lt_of_cell? w _ hw237_12)).trans hw237_12), ((HB.out.cell (World.block_lt_of_cell? w _ hw237_13)).trans hw237_13), ((HB.out.cell (World.block_lt_of_cell? w _ hw237_14)).trans hw237_14)⟩ (fun hHeld => ?_); refine with_tabW decoupageref29_Ends.tab5 decoupageref29_Ends.bits5 (fun HT_ HW_ => ?_)
            generalize wr.drew = w27 at HB hx236_0 hx236_1 hx236_10 hx236_11 hx236_12 hx236_13 hx236_14 hx236_2 hx236_3 hx236_4 hx236_5 hx236_6 hx236_7 hx236_8 hx236_9 hx237_0 hx237_1 hx237_10 hx237_11 hx237_12 hx237_13 hx237_14 hx237_2 hx237_3 hx237_4 hx237_5 hx237_6 hx237_7 hx237_8 hx237_9 hHeld ⊢
            refine pure_ (i := 0) (N := some 31) (v := ?_) (a' := ?_) #[true, false, false, false, false, false, false, false, false, false, false, false, false, false, false, false, false, false, false, false, false, false, false, false, false, false, false, false, false, false, false, false, false] rfl rfl (any_of HT_.out (by kernel_rfl)) (fun _ _ _ h => h) (Or.inl ⟨by rfl, ?_⟩) ?_ ?_
            rotate_left
            ·intro w'
             go_simp
             with_reducible rfl
            rotate_left
            ·simp only [Act.put, List.setIfInBounds_toArray, List.set_cons_zero, List.set_cons_succ, i64_w, i32_w]
             rfl
            refine pure_ (i := 1) (N := some 32) (v := ?_) (a' := ?_) #[true, true, false, false, false, false, false, false, false, false, false, false, false, false, false, false, false, false, false, false, false, false, false, false, false, false, false, false, false, false, false, false, false] rfl rfl (any_of HT_.out (by kernel_rfl)) (fun _ _ _ h => h) (Or.inl ⟨by rfl, ?_⟩) ?_ ?_
            rotate_left
            ·intro w'
             go_simp
             with_reducible rfl
            rotate_left
            ·simp only [Act.put, List.setIfInBounds_toArray, List.set_cons_zero, List.set_cons_succ, i64_w, i32_w]
             rfl
            refine pure_ (i := 2) (N := some 33) (v := ?_) (a' := ?_) #[true, true, true, false, false, false, false, false, false, false, false, false, false, false, false, false, false, false, false, false, false, false, false, false, false, false, false, false, false, false, false, false, false] rfl rfl (any_of HT_.out (by kernel_rfl)) (fun _ _ _ h => h) (Or.inl ⟨by rfl, ?_⟩) ?_ ?_
            rotate_left
            ·intro w'
             go_simp
             with_reducible rfl
            rotate_left
            ·simp only [Act.put, List.setIfInBounds_toArray, List.set_cons_zero, List.set_cons_succ, i64_w, i32_w]
             rfl
            refine pure_ (i := 3) (N := some 34) (v := ?_) (a' := ?_) #[true, true, true, true, false, false, false, false, false, false, false, false, false, false, false, false, false, false, false, false, false, false, false, false, false, false, false, false, false, false, false, false, false] rfl rfl (any_of HT_.out (by kernel_rfl)) (fun _ _ _ h => h) (Or.inl ⟨by rfl, ?_⟩) ?_ ?_
            rotate_left
            ·intro w'
             go_simp
             with_reducible rfl
            rotate_left
            ·simp only [Act.put, List.setIfInBounds_toArray, List.set_cons_zero, List.set_cons_succ, i64_w, i32_w]
             rfl
            refine pure_ (i := 4) (N := some 35) (v := ?_) (a' := ?_) #[true, true, true, true, true, false, false, false, false, false, false, false, false, false, false, false, false, false, false, false, false, false, false, false, false, false, false, false, false, false, false, false, false] rfl rfl (any_of HT_.out (by kernel_rfl)) (fun _ _ _ h => h) (Or.inl ⟨by rfl, ?_⟩) ?_ ?_
            rotate_left
            ·intro w'
             go_simp
             with_reducible rfl
            rotate_left
            ·simp only [Act.put, List.setIfInBounds_toArray, List.set_cons_zero, List.set_cons_succ, i64_w, i32_w]
             rfl
            refine pure_ (i := 5) (N := some 36) (v := ?_) (a' := ?_) #[true, true, true, true, true, true, false, false, false, false, false, false, false, false, false, false, false, false, false, false, false, false, false, false, false, false, false, false, false, false, false, false, false] rfl rfl (any_of HT_.out (by kernel_rfl)) (fun _ _ _ h => h) (Or.inl ⟨by rfl, ?_⟩) ?_ ?_
            rotate_left
            ·intro w'
             go_simp
             with_reducible rfl
            rotate_left
            ·simp only [Act.put, List.setIfInBounds_toArray, List.set_cons_zero, List.set_cons_succ, i64_w, i32_w]
             rfl
            refine pure_ (i := 6) (N := some 37) (v := ?_) (a' := ?_) #[true, true, true, true, true, true, true, false, false, false, false, false, false, false, false, false, false, false, false, false, false, false, false, false, false, false, false, false, false, false, false, false, false] rfl rfl (any_of HT_.out (by kernel_rfl)) (fun _ _ _ h => h) (Or.inl ⟨by rfl, ?_⟩) ?_ ?_
            rotate_left
            ·intro w'
             go_simp
             with_reducible rfl
            rotate_left
            ·simp only [Act.put, List.setIfInBounds_toArray, List.set_cons_zero, List.set_cons_succ, i64_w, i32_w]
             rfl
            refine pure_ (i := 7) (N := some 38) (v := ?_) (a' := ?_) #[true, true, true, true, true, true, true, true, false, false, false, false, false, false, false, false, false, false, false, false, false, false, false, false, false, false, false, false, false, false, false, false, false] rfl rfl (any_of HT_.out (by kernel_rfl)) (fun _ _ _ h => h) (Or.inl ⟨by rfl, ?_⟩) ?_ ?_
            rotate_left
            ·intro w'
             go_simp
             with_reducible rfl
            rotate_left
            ·simp only [Act.put, List.setIfInBounds_toArray, List.set_cons_zero, List.set_cons_succ, i64_w, i32_w]
             rfl
            refine pure_ (i := 8) (N := some 39) (v := ?_) (a' := ?_) #[true, true, true, true, true, true, true, true, true, false, false, false, false, false, false, false, false, false, false, false, false, false, false, false, false, false, false, false, false, false, false, false, false] rfl rfl (any_of HT_.out (by kernel_rfl)) (fun _ _ _ h => h) (Or.inl ⟨by rfl, ?_⟩) ?_ ?_
            rotate_left
            ·intro w'
             go_simp
             with_reducible rfl
            rotate_left
            ·simp only [Act.put, List.setIfInBounds_toArray, List.set_cons_zero, List.set_cons_succ, i64_w, i32_w]
             rfl
            refine pure_ (i := 9) (N := some 40) (v := ?_) (a' := ?_) #[true, true, true, true, true, true, true, true, true, true, false, false, false, false, false, false, false, false, false, false, false, false, false, false, false, false, false, false, false, false, false, false, false] rfl rfl (any_of HT_.out (by kernel_rfl)) (fun _ _ _ h => h) (Or.inl ⟨by rfl, ?_⟩) ?_ ?_
            rotate_left
            ·intro w'
             go_simp
             with_reducible rfl
            rotate_left
            ·simp only [Act.put, List.setIfInBounds_toArray, List.set_cons_zero, List.set_cons_succ, i64_w, i32_w]
             rfl
            refine pure_ (i := 10) (N := some 41) (v := ?_) (a' := ?_) #[true, true, true, true, true, true, true, true, true, true, true, false, false, false, false, false, false, false, false, false, false, false, false, false, false, false, false, false, false, false, false, false, false] rfl rfl (any_of HT_.out (by kernel_rfl)) (fun _ _ _ h => h) (Or.inl ⟨by rfl, ?_⟩) ?_ ?_
            rotate_left
            ·intro w'
             go_simp
             with_reducible rfl
            rotate_left
            ·simp only [Act.put, List.setIfInBounds_toArray, List.set_cons_zero, List.set_cons_succ, i64_w, i32_w]
             rfl
            refine pure_ (i := 11) (N := some 42) (v := ?_) (a' := ?_) #[true, true, true, true, true, true, true, true, true, true, true, true, false, false, false, false, false, false, false, false, false, false, false, false, false, false, false, false, false, false, false, false, false] rfl rfl (any_of HT_.out (by kernel_rfl)) (fun _ _ _ h => h) (Or.inl ⟨by rfl, ?_⟩) ?_ ?_
            rotate_left
            ·intro w'
             go_simp
             with_reducible rfl
            rotate_left
            ·simp only [Act.put, List.setIfInBounds_toArray, List.set_cons_zero, List.set_cons_succ, i64_w, i32_w]
             rfl
            refine pure_ (i := 12) (N := some 43) (v := ?_) (a' := ?_) #[true, true, true, true, true, true, true, true, true, true, true, true, true, false, false, false, false, false, false, false, false, false, false, false, false, false, false, false, false, false, false, false, false] rfl rfl (any_of HT_.out (by kernel_rfl)) (fun _ _ _ h => h) (Or.inl ⟨by rfl, ?_⟩) ?_ ?_
            rotate_left
            ·intro w'
             go_simp
             with_reducible rfl
            rotate_left
            ·simp only [Act.put, List.setIfInBounds_toArray, List.set_cons_zero, List.set_cons_succ, i64_w, i32_w]
             rfl
            refine pure_ (i := 13) (N := some 44) (v := ?_) (a' := ?_) #[true, true, true, true, true, true, true, true, true, true, true, true, true, true, false, false, false, false, false, false, false, false, false, false, false, false, false, false, false, false, false, false, false] rfl rfl (any_of HT_.out (by kernel_rfl)) (fun _ _ _ h => h) (Or.inl ⟨by rfl, ?_⟩) ?_ ?_
            rotate_left
            ·intro w'
             go_simp
             with_reducible rfl
            rotate_left
            ·simp only [Act.put, List.setIfInBounds_toArray, List.set_cons_zero, List.set_cons_succ, i64_w, i32_w]
             rfl
            refine pure_ (i := 14) (N := some 45) (v := ?_) (a' := ?_) #[true, true, true, true, true, true, true, true, true, true, true, true, true, true, true, false, false, false, false, false, false, false, false, false, false, false, false, false, false, false, false, false, false] rfl rfl (any_of HT_.out (by kernel_rfl)) (fun _ _ _ h => h) (Or.inl ⟨by rfl, ?_⟩) ?_ ?_
            rotate_left
            ·intro w'
             go_simp
             with_reducible rfl
            rotate_left
            ·simp only [Act.put, List.setIfInBounds_toArray, List.set_cons_zero, List.set_cons_succ, i64_w, i32_w]
             rfl
            refine pure_ (i := 15) (N := some 46) (v := ?_) (a' := ?_) #[true, true, true, true, true, true, true, true, true, true, true, true, true, true, true, true, false, false, false, false, false, false, false, false, false, false, false, false, false, false, false, false, false] rfl rfl (any_of HT_.out (by kernel_rfl)) (fun _ _ _ h => h) (Or.inl ⟨by rfl, ?_⟩) ?_ ?_
            rotate_left
            ·intro w'
             go_simp
             with_reducible rfl
            rotate_left
            ·simp only [Act.put, List.setIfInBounds_toArray, List.set_cons_zero, List.set_cons_succ, i64_w, i32_w]
             rfl
            refine pure_ (i := 16) (N := some 47) (v := ?_) (a' := ?_) #[true, true, true, true, true, true, true, true, true, true, true, true, true, true, true, true, true, false, false, false, false, false, false, false, false, false, false, false, false, false, false, false, false] rfl rfl (any_of HT_.out (by kernel_rfl)) (fun _ _ _ h => h) (Or.inl ⟨by rfl, ?_⟩) ?_ ?_
            rotate_left
            ·intro w'
             go_simp
             with_reducible rfl
            rotate_left
            ·simp only [Act.put, List.setIfInBounds_toArray, List.set_cons_zero, List.set_cons_succ, i64_w, i32_w]
             rfl
            refine pure_ (i := 17) (N := some 48) (v := ?_) (a' := ?_) #[true, true, true, true, true, true, true, true, true, true, true, true, true, true, true, true, true, true, false, false, false, false, false, false, false, false, false, false, false, false, false, false, false] rfl rfl (any_of HT_.out (by kernel_rfl)) (fun _ _ _ h => h) (Or.inl ⟨by rfl, ?_⟩) ?_ ?_
            rotate_left
            ·intro w'
             go_simp
             with_reducible rfl
            rotate_left
            ·simp only [Act.put, List.setIfInBounds_toArray, List.set_cons_zero, List.set_cons_succ, i64_w, i32_w]
             rfl
            refine pure_ (i := 18) (N := some 49) (v := ?_) (a' := ?_) #[true, true, true, true, true, true, true, true, true, true, true, true, true, true, true, true, true, true, true, false, false, false, false, false, false, false, false, false, false, false, false, false, false] rfl rfl (any_of HT_.out (by kernel_rfl)) (fun _ _ _ h => h) (Or.inl ⟨by rfl, ?_⟩) ?_ ?_
            rotate_left
            ·intro w'
             go_simp
             with_reducible rfl
            rotate_left
            ·simp only [Act.put, List.setIfInBounds_toArray, List.set_cons_zero, List.set_cons_succ, i64_w, i32_w]
             rfl
            refine pure_ (i := 19) (N := some 50) (v := ?_) (a' := ?_) #[true, true, true, true, true, true, true, true, true, true, true, true, true, true, true, true, true, true, true, true, false, false, false, false, false, false, false, false, false, false, false, false, false] rfl rfl (any_of HT_.out (by kernel_rfl)) (fun _ _ _ h => h) (Or.inl ⟨by rfl, ?_⟩) ?_ ?_
            rotate_left
            ·intro w'
             go_simp
             with_reducible rfl
            rotate_left
            ·simp only [Act.put, List.setIfInBounds_toArray, List.set_cons_zero, List.set_cons_succ, i64_w, i32_w]
             rfl
            refine pure_ (i := 20) (N := some 51) (v := ?_) (a' := ?_) #[true, true, true, true, true, true, true, true, true, true, true, true, true, true, true, true, true, true, true, true, true, false, false, false, false, false, false, false, false, false, false, false, false] rfl rfl (any_of HT_.out (by kernel_rfl)) (fun _ _ _ h => h) (Or.inl ⟨by rfl, ?_⟩) ?_ ?_
            rotate_left
            ·intro w'
             go_simp
             with_reducible rfl
            rotate_left
            ·simp only [Act.put, List.setIfInBounds_toArray, List.set_cons_zero, List.set_cons_succ, i64_w, i32_w]
             rfl
            refine pure_ (i := 21) (N := some 52) (v := ?_) (a' := ?_) #[true, true, true, true, true, true, true, true, true, true, true, true, true, true, true, true, true, true, true, true, true, true, false, false, false, false, false, false, false, false, false, false, false] rfl rfl (any_of HT_.out (by kernel_rfl)) (fun _ _ _ h => h) (Or.inl ⟨by rfl, ?_⟩) ?_ ?_
            rotate_left
            ·intro w'
             go_simp
             with_reducible rfl
            rotate_left
            ·simp only [Act.put, List.setIfInBounds_toArray, List.set_cons_zero, List.set_cons_succ, i64_w, i32_w]
             rfl
            refine pure_ (i := 23) (N := some 54) (v := ?_) (a' := ?_) #[true, true, true, true, true, true, true, true, true, true, true, true, true, true, true, true, true, true, true, true, true, true, false, true, false, false, false, false, false, false, false, false, false] rfl rfl (any_of HT_.out (by kernel_rfl)) (fun _ _ _ h => h) (Or.inl ⟨by rfl, ?_⟩) ?_ ?_
            rotate_left
            ·intro w'
             go_simp
             with_reducible rfl
            rotate_left
            ·simp only [Act.put, List.setIfInBounds_toArray, List.set_cons_zero, List.set_cons_succ, i64_w, i32_w]
             rfl
            refine pure_ (i := 24) (N := some 55) (v := ?_) (a' := ?_) #[true, true, true, true, true, true, true, true, true, true, true, true, true, true, true, true, true, true, true, true, true, true, false, true, true, false, false, false, false, false, false, false, false] rfl rfl (any_of HT_.out (by kernel_rfl)) (fun _ _ _ h => h) (Or.inl ⟨by rfl, ?_⟩) ?_ ?_
            rotate_left
            ·intro w'
             go_simp
             with_reducible rfl
            rotate_left
            ·simp only [Act.put, List.setIfInBounds_toArray, List.set_cons_zero, List.set_cons_succ, i64_w, i32_w]
             rfl
            refine pure_ (i := 25) (N := some 56) (v := ?_) (a' := ?_) #[true, true, true, true, true, true, true, true, true, true, true, true, true, true, true, true, true, true, true, true, true, true, false, true, true, true, false, false, false, false, false, false, false] rfl rfl (any_of HT_.out (by kernel_rfl)) (fun _ _ _ h => h) (Or.inl ⟨by rfl, ?_⟩) ?_ ?_
            rotate_left
            ·intro w'
             go_simp
             with_reducible rfl
            rotate_left
            ·simp only [Act.put, List.setIfInBounds_toArray, List.set_cons_zero, List.set_cons_succ, i64_w, i32_w]
             rfl
            refine pure_ (i := 26) (N := some 57) (v := ?_) (a' := ?_) #[true, true, true, true, true, true, true, true, true, true, true, true, true, true, true, true, true, true, true, true, true, true, false, true, true, true, true, false, false, false, false, false, false] rfl rfl (any_of HT_.out (by kernel_rfl)) (fun _ _ _ h => h) (Or.inl ⟨by rfl, ?_⟩) ?_ ?_
            rotate_left
            ·intro w'
             go_simp
             with_reducible rfl
            rotate_left
            ·simp only [Act.put, List.setIfInBounds_toArray, List.set_cons_zero, List.set_cons_succ, i64_w, i32_w]
             rfl
            refine pure_ (i := 27) (N := some 58) (v := ?_) (a' := ?_) #[true, true, true, true, true, true, true, true, true, true, true, true, true, true, true, true, true, true, true, true, true, true, false, true, true, true, true, true, false, false, false, false, false] rfl rfl (any_of HT_.out (by kernel_rfl)) (fun _ _ _ h => h) (Or.inl ⟨by rfl, ?_⟩) ?_ ?_
            rotate_left
            ·intro w'
             go_simp
             with_reducible rfl
            rotate_left
            ·simp only [Act.put, List.setIfInBounds_toArray, List.set_cons_zero, List.set_cons_succ, i64_w, i32_w]
             rfl
            refine pure_ (i := 28) (N := some 59) (v := ?_) (a' := ?_) #[true, true, true, true, true, true, true, true, true, true, true, true, true, true, true, true, true, true, true, true, true, true, false, true, true, true, true, true, true, false, false, false, false] rfl rfl (any_of HT_.out (by kernel_rfl)) (fun _ _ _ h => h) (Or.inl ⟨by rfl, ?_⟩) ?_ ?_
            rotate_left
            ·intro w'
             go_simp
             with_reducible rfl
            rotate_left
            ·simp only [Act.put, List.setIfInBounds_toArray, List.set_cons_zero, List.set_cons_succ, i64_w, i32_w]
             rfl
            refine pure_ (i := 29) (N := some 60) (v := ?_) (a' := ?_) #[true, true, true, true, true, true, true, true, true, true, true, true, true, true, true, true, true, true, true, true, true, true, false, true, true, true, true, true, true, true, false, false, false] rfl rfl (any_of HT_.out (by kernel_rfl)) (fun _ _ _ h => h) (Or.inl ⟨by rfl, ?_⟩) ?_ ?_
            rotate_left
            ·intro w'
             go_simp
             with_reducible rfl
            rotate_left
            ·simp only [Act.put, List.setIfInBounds_toArray, List.set_cons_zero, List.set_cons_succ, i64_w, i32_w]
             rfl
            refine take_ (i := 22) (N := some 53) (v := ?_) (a' := ?_) #[true, true, true, true, true, true, true, true, true, true, true, true, true, true, true, true, true, true, true, true, true, true, true, true, true, true, true, true, true, true, false, false, false] rfl rfl (take_ofW HT_.out HW_.out (by kernel_rfl)) (fun _ _ _ h => h) (Or.inl ⟨by rfl, ?_⟩) hHeld ?_ ?_
            rotate_left
            ·rintro w' ⟨s0, s1, s2, s3, s4, s5, s6, s7, s8, s9, s10, s11, s12, s13, s14, s15, s16, s17, s18, s19, s20, s21, s22, s23, s24, s25, s26, s27, s28, s29⟩
             go_simp
             with_reducible rfl
            rotate_left
            ·simp only [Act.put, List.setIfInBounds_toArray, List.set_cons_zero, List.set_cons_succ, i64_w, i32_w]
             rfl
            refine take_ (i := 30) (N := some 61) (v := ?_) (a' := ?_) #[true, true, true, true, true, true, true, true, true, true, true, true, true, true, true, true, true, true, true, true, true, true, true, true, true, true, true, true, true, true, true, false, false] rfl rfl (take_ofW HT_.out HW_.out (by kernel_rfl)) (fun _ _ _ h => h) (Or.inl ⟨by rfl, ?_⟩) hHeld ?_ ?_
            rotate_left
            ·rintro w' ⟨s0, s1, s2, s3, s4, s5, s6, s7, s8, s9, s10, s11, s12, s13, s14, s15, s16, s17, s18, s19, s20, s21, s22, s23, s24, s25, s26, s27, s28, s29⟩
             go_simp
             with_reducible rfl
            rotate_left
            ·simp only [Act.put, List.setIfInBounds_toArray, List.set_cons_zero, List.set_cons_succ, i64_w, i32_w]
             rfl
            refine one_ (i := 31) (N := some 62) #[true, true, true, true, true, true, true, true, true, true, true, true, true, true, true, true, true, true, true, true, true, true, true, true, true, true, true, true, true, true, true, true, false] rfl rfl (one_of HT_.out (by kernel_rfl)) (by decide) (fun K hK => ?_)
            refine goes_ Try.func25 (by kernel_rfl) rfl #[.agg #[.int .i64 ((rd_T39 l0 (ji17)).f0), .int .i64 ((rd_T39 l0 (ji17)).f1), .int .i64 ((rd_T39 l0 (ji17)).f2.f0), .int .i64 ((rd_T39 l0 (ji17)).f2.f1), .int .i64 ((rd_T39 l0 (ji17)).f2.f2), .int .i64 ((rd_T39 l0 (ji17)).f2.f3), .int .i64 ((rd_T39 l0 (ji17)).f3.f0), .int .i64 ((rd_T39 l0 (ji17)).f3.f1), .int .i64 ((rd_T39 l0 (ji17)).f3.f2), .int .i64 ((rd_T39 l0 (ji17)).f3.f3), .int .i64 ((rd_T39 l0 (ji17)).f4.f0), .int .i64 ((rd_T39 l0 (ji17)).f4.f1), .int .i64 ((rd_T39 l0 (ji17)).f4.f2), .int .i64 ((rd_T39 l0 (ji17)).f4.f3), .int .i64 ((rd_T39 l0 (ji17)).f5)], .agg #[.int .i64 ((rd_T39 l1 (ji20)).f0), .int .i64 ((rd_T39 l1 (ji20)).f1), .int .i64 ((rd_T39 l1 (ji20)).f2.f0), .int .i64 ((rd_T39 l1 (ji20)).f2.f1), .int .i64 ((rd_T39 l1 (ji20)).f2.f2), .int .i64 ((rd_T39 l1 (ji20)).f2.f3), .int .i64 ((rd_T39 l1 (ji20)).f3.f0), .int .i64 ((rd_T39 l1 (ji20)).f3.f1), .int .i64 ((rd_T39 l1 (ji20)).f3.f2), .int .i64 ((rd_T39 l1 (ji20)).f3.f3), .int .i64 ((rd_T39 l1 (ji20)).f4.f0), .int .i64 ((rd_T39 l1 (ji20)).f4.f1), .int .i64 ((rd_T39 l1 (ji20)).f4.f2), .int .i64 ((rd_T39 l1 (ji20)).f4.f3), .int .i64 ((rd_T39 l1 (ji20)).f5)]] (by rfl) rfl rfl (by (try simp only [List.map_toArray, List.map_cons, List.map_nil]); first | done | (simp only [hji17, hji20]; rfl) | rfl | (simp only [List.length_drop, List.length_take]; rfl)) ?_
            with_reducible refine (decoupageref29_Alike.calls ((rd_T39 l0 (ji17)).f0) ((rd_T39 l0 (ji17)).f1) ((rd_T39 l0 (ji17)).f2.f0) ((rd_T39 l0 (ji17)).f2.f1) ((rd_T39 l0 (ji17)).f2.f2) ((rd_T39 l0 (ji17)).f2.f3) ((rd_T39 l0 (ji17)).f3.f0) ((rd_T39 l0 (ji17)).f3.f1) ((rd_T39 l0 (ji17)).f3.f2) ((rd_T39 l0 (ji17)).f3.f3) ((rd_T39 l0 (ji17)).f4.f0) ((rd_T39 l0 (ji17)).f4.f1) ((rd_T39 l0 (ji17)).f4.f2) ((rd_T39 l0 (ji17)).f4.f3) ((rd_T39 l0 (ji17)).f5) ((rd_T39 l1 (ji20)).f0) ((rd_T39 l1 (ji20)).f1) ((rd_T39 l1 (ji20)).f2.f0) ((rd_T39 l1 (ji20)).f2.f1) ((rd_T39 l1 (ji20)).f2.f2) ((rd_T39 l1 (ji20)).f2.f3) ((rd_T39 l1 (ji20)).f3.f0) ((rd_T39 l1 (ji20)).f3.f1) ((rd_T39 l1 (ji20)).f3.f2) ((rd_T39 l1 (ji20)).f3.f3) ((rd_T39 l1 (ji20)).f4.f0) ((rd_T39 l1 (ji20)).f4.f1) ((rd_T39 l1 (ji20)).f4.f2) ((rd_T39 l1 (ji20)).f4.f3) ((rd_T39 l1 (ji20)).f5) t238 _ A23.out).mono ?_
            rintro e w28 ⟨rfl, hb⟩
            refine ⟨_, rfl, ?_⟩
            have n0_ := Aside0.mk (below_step (by repeat (first | (with_reducible first | exact HB.out | apply below_alloc | apply pw_below_drewN | apply below_drew1) | exact HB.out)) hb)
            clear HB
            have HB := n0_
            clear n0_
            (try clear hb)
            (try clear hb2)
            (try clear hk)
            (try clear hi)
            refine hK.out _ _ ⟨((HB.out.cell (World.block_lt_of_cell? w _ hw236_0)).trans hw236_0), ((HB.out.cell (World.block_lt_of_cell? w _ hw236_1)).trans hw236_1), ((HB.out.cell (World.block_lt_of_cell? w _ hw236_2)).trans hw236_2), ((HB.out.cell (World.block_lt_of_cell? w _ hw236_3)).trans hw236_3), ((HB.out.cell (World.block_lt_of_cell? w _ hw236_4)).trans hw236_4), ((HB.out.cell (World.block_lt_of_cell? w _ hw236_5)).trans hw236_5), ((HB.out.cell (World.block_lt_of_cell? w _ hw236_6)).trans hw236_6), ((HB.out.cell (World.block_lt_of_cell? w _ hw236_7)).trans hw236_7), ((HB.out.cell (World.block_lt_of_cell? w _ hw236_8)).trans hw236_8), ((HB.out.cell (World.block_lt_of_cell? w _ hw236_9)).trans hw236_9), ((HB.out.cell (World.block_lt_of_cell? w _ hw236_10)).trans hw236_10), ((HB.out.cell (World.block_lt_of_cell? w _ hw236_11)).trans hw236_11), ((HB.out.cell (World.block_lt_of_cell? w _ hw236_12)).trans hw236_12), ((HB.out.cell (World.block_lt_of_cell? w _ hw236_13)).trans hw236_13), ((HB.out.cell (World.block_lt_of_cell? w _ hw236_14)).trans hw236_14), ((HB.out.cell (World.block_lt_of_cell? w _ hw237_0)).trans hw237_0), ((HB.out.cell (World.block_lt_of_cell? w _ hw237_1)).trans hw237_1), ((HB.out.cell (World.block_lt_of_cell? w _ hw237_2)).trans hw237_2), ((HB.out.cell (World.block_lt_of_cell? w _ hw237_3)).trans hw237_3), ((HB.out.cell (World.block_lt_of_cell? w _ hw237_4)).trans hw237_4), ((HB.out.cell (World.block_lt_of_cell? w _ hw237_5)).trans hw237_5), ((HB.out.cell (World.block_lt_of_cell? w _ hw237_6)).trans hw237_6), ((HB.out.cell (World.block_lt_of_cell? w _ hw237_7)).trans hw237_7), ((HB.out.cell (World.block_lt_of_cell? w _ hw237_8)).trans hw237_8), ((HB.out.cell (World.block_lt_of_cell? w _ hw237_9)).trans hw237_9), ((HB.out.cell (World.block_lt_of_cell? w _ hw237_10)).trans hw237_10), ((HB.out.cell (World.block_lt_of_cell? w _ hw237_11)).trans hw237_11), ((HB.out.cell (World.block_lt_of_cell? w _ hw237_12)).trans hw237_12), ((HB.out.cell (World.block_lt_of_cell? w _ hw237_13)).trans hw237_13), ((HB.out.cell (World.block_lt_of_cell? w _ hw237_14)).trans hw237_14)⟩ (fun hHeld => ?_)
            clear hK K
            refine norm_ (a' := ?_) ?_ ?_
            rotate_left
            ·show Act.put _ (some 62) _ = _
             simp only [Act.put, List.setIfInBounds_toArray, List.set_cons_zero, List.set_cons_succ, i64_w, i32_w]
             rfl
            refine pure_ (i := 32) (N := some 63) (v := ?_) (a' := ?_) #[true, true, true, true, true, true, true, true, true, true, true, true, true, true, true, true, true, true, true, true, true, true, true, true, true, true, true, true, true, true, true, true, true] rfl rfl (any_of HT_.out (by kernel_rfl)) (fun _ _ _ h => h) (Or.inl ⟨by rfl, ?_⟩) ?_ ?_
            rotate_left
            ·intro w'
             go_simp
             with_reducible rfl
            rotate_left
            ·simp only [Act.put, List.setIfInBounds_toArray, List.set_cons_zero, List.set_cons_succ, i64_w, i32_w]
             rfl
            refine done_ (done_of HT_.out (by kernel_rfl)) ?_
            by_cases c24 : t238 = true
            ·have H := HM.out
             clear HM
             subst c24
             have H1 : (decoupageref29_Ends.l1 k2 l0 l1 x6_2 (wrap64 (x7_2 + 1))) = some (r1, r2) := by rw [if_pos rfl] at H; exact H
             clear H
             have H := H1
             clear H1
             have H' := Aside0.mk H
             clear H
             try go_wp2
             go_roundg k2
             case measure => have := HJ2.out; have := HK2.out; omega
             case rel => exact ⟨(wrap64 (x7_2 + 1)), (by first | rfl | (simp; done) | (simp [*]; done)), H', ⟨by have := HJ2.out; have := HK2.out; omega⟩, ⟨by repeat (first | (with_reducible first | exact HB.out | apply below_alloc | apply pw_below_drewN | apply below_drew1) | exact HB.out)⟩⟩
            ·have H := HM.out
             clear HM
             replace c24 := Bool.eq_false_iff.mpr c24
             subst c24
             have H1 : (some (x6_2, x7_2)) = some (r1, r2) := by rw [if_neg (show ¬ (false = true) by decide)] at H; exact H
             clear H
             have H := H1
             clear H1
             simp only [Option.some.injEq, Prod.mk.injEq] at H
             obtain ⟨rfl, rfl⟩ := H
             try go_wp2
             go_ret2
             exact ⟨by first | rfl | (simp [errW_none, errW_some] <;> rfl) | (simp only [← hji17, ← hji20]; first | rfl | (simp [errW_none, errW_some] <;> rfl)) | (simp [*, errW_none, errW_some] <;> rfl), by repeat (first | (with_reducible first | exact HB.out | apply below_alloc | apply pw_below_drewN | apply below_drew1) | exact HB.out)⟩
           ·rw [if_neg c22] at H
            exact absurd H (by simp)
          ·rw [if_neg c21] at H
           exact absurd H (by simp)
         ·rw [if_neg c19] at H
          exact absurd H (by simp)
        ·rw [if_neg c18] at H
         exact absurd H (by simp)
       ·rw [if_neg c16] at H
        have c16b0 : decide (x7_2 < (wrap64 ((l1.length : Int) - x6_2))) = false := decide_eq_false c16
        clear c16
        simp only [Option.some.injEq, Prod.mk.injEq] at H
        obtain ⟨rfl, rfl⟩ := H
        try go_wp2
        have n0_ := Aside0.mk (below_drew1 HB.out)
        clear HB
        have HB := n0_
        clear n0_
        refine start_ (n := 33) (S := fun w' => True) (ds := []) #[false, false, false, false, false, false, false, false, false, false, false, false, false, false, false, false, false, false, false, false, false, false, false, false, false, false, false, false, false, false, false, false, false] (by kernel_rfl) rfl rfl trivial (fun hHeld => ?_); refine with_tabW decoupageref29_Ends.tab5 decoupageref29_Ends.bits5 (fun HT_ HW_ => ?_)
        generalize wr.drew = w29 at HB hHeld ⊢
        refine pure_ (i := 0) (N := some 31) (v := ?_) (a' := ?_) #[true, false, false, false, false, false, false, false, false, false, false, false, false, false, false, false, false, false, false, false, false, false, false, false, false, false, false, false, false, false, false, false, false] rfl rfl (any_of HT_.out (by kernel_rfl)) (fun _ _ _ h => h) (Or.inl ⟨by rfl, ?_⟩) ?_ ?_
        rotate_left
        ·intro w'
         go_simp
         with_reducible rfl
        rotate_left
        ·simp only [Act.put, List.setIfInBounds_toArray, List.set_cons_zero, List.set_cons_succ, i64_w, i32_w]
         rfl
        refine pure_ (i := 1) (N := some 32) (v := ?_) (a' := ?_) #[true, true, false, false, false, false, false, false, false, false, false, false, false, false, false, false, false, false, false, false, false, false, false, false, false, false, false, false, false, false, false, false, false] rfl rfl (any_of HT_.out (by kernel_rfl)) (fun _ _ _ h => h) (Or.inl ⟨by rfl, ?_⟩) ?_ ?_
        rotate_left
        ·intro w'
         go_simp
         with_reducible rfl
        rotate_left
        ·simp only [Act.put, List.setIfInBounds_toArray, List.set_cons_zero, List.set_cons_succ, i64_w, i32_w]
         rfl
        refine pure_ (i := 2) (N := some 33) (v := ?_) (a' := ?_) #[true, true, true, false, false, false, false, false, false, false, false, false, false, false, false, false, false, false, false, false, false, false, false, false, false, false, false, false, false, false, false, false, false] rfl rfl (any_of HT_.out (by kernel_rfl)) (fun _ _ _ h => h) (Or.inl ⟨by rfl, ?_⟩) ?_ ?_
        rotate_left
        ·intro w'
         go_simp
         with_reducible rfl
        rotate_left
        ·simp only [Act.put, List.setIfInBounds_toArray, List.set_cons_zero, List.set_cons_succ, i64_w, i32_w]
         rfl
        refine pure_ (i := 3) (N := some 34) (v := ?_) (a' := ?_) #[true, true, true, true, false, false, false, false, false, false, false, false, false, false, false, false, false, false, false, false, false, false, false, false, false, false, false, false, false, false, false, false, false] rfl rfl (any_of HT_.out (by kernel_rfl)) (fun _ _ _ h => h) (Or.inl ⟨by rfl, ?_⟩) ?_ ?_
        rotate_left
        ·intro w'
         go_simp
         with_reducible rfl
        rotate_left
        ·simp only [Act.put, List.setIfInBounds_toArray, List.set_cons_zero, List.set_cons_succ, i64_w, i32_w]
         rfl
        refine pure_ (i := 4) (N := some 35) (v := ?_) (a' := ?_) #[true, true, true, true, true, false, false, false, false, false, false, false, false, false, false, false, false, false, false, false, false, false, false, false, false, false, false, false, false, false, false, false, false] rfl rfl (any_of HT_.out (by kernel_rfl)) (fun _ _ _ h => h) (Or.inl ⟨by rfl, ?_⟩) ?_ ?_
        rotate_left
        ·intro w'
         go_simp
         with_reducible rfl
        rotate_left
        ·simp only [Act.put, List.setIfInBounds_toArray, List.set_cons_zero, List.set_cons_succ, i64_w, i32_w]
         rfl
        refine pure_ (i := 5) (N := some 36) (v := ?_) (a' := ?_) #[true, true, true, true, true, true, false, false, false, false, false, false, false, false, false, false, false, false, false, false, false, false, false, false, false, false, false, false, false, false, false, false, false] rfl rfl (any_of HT_.out (by kernel_rfl)) (fun _ _ _ h => h) (Or.inl ⟨by rfl, ?_⟩) ?_ ?_
        rotate_left
        ·intro w'
         go_simp
         with_reducible rfl
        rotate_left
        ·simp only [Act.put, List.setIfInBounds_toArray, List.set_cons_zero, List.set_cons_succ, i64_w, i32_w]
         rfl
        refine pure_ (i := 6) (N := some 37) (v := ?_) (a' := ?_) #[true, true, true, true, true, true, true, false, false, false, false, false, false, false, false, false, false, false, false, false, false, false, false, false, false, false, false, false, false, false, false, false, false] rfl rfl (any_of HT_.out (by kernel_rfl)) (fun _ _ _ h => h) (Or.inl ⟨by rfl, ?_⟩) ?_ ?_
        rotate_left
        ·intro w'
         go_simp
         with_reducible rfl
        rotate_left
        ·simp only [Act.put, List.setIfInBounds_toArray, List.set_cons_zero, List.set_cons_succ, i64_w, i32_w]
         rfl
        refine pure_ (i := 7) (N := some 38) (v := ?_) (a' := ?_) #[true, true, true, true, true, true, true, true, false, false, false, false, false, false, false, false, false, false, false, false, false, false, false, false, false, false, false, false, false, false, false, false, false] rfl rfl (any_of HT_.out (by kernel_rfl)) (fun _ _ _ h => h) (Or.inl ⟨by rfl, ?_⟩) ?_ ?_
        rotate_left
        ·intro w'
         go_simp
         with_reducible rfl
        rotate_left
        ·simp only [Act.put, List.setIfInBounds_toArray, List.set_cons_zero, List.set_cons_succ, i64_w, i32_w]
         rfl
        refine pure_ (i := 8) (N := some 39) (v := ?_) (a' := ?_) #[true, true, true, true, true, true, true, true, true, false, false, false, false, false, false, false, false, false, false, false, false, false, false, false, false, false, false, false, false, false, false, false, false] rfl rfl (any_of HT_.out (by kernel_rfl)) (fun _ _ _ h => h) (Or.inl ⟨by rfl, ?_⟩) ?_ ?_
        rotate_left
        ·intro w'
         go_simp
         with_reducible rfl
        rotate_left
        ·simp only [Act.put, List.setIfInBounds_toArray, List.set_cons_zero, List.set_cons_succ, i64_w, i32_w]
         rfl
        refine pure_ (i := 9) (N := some 40) (v := ?_) (a' := ?_) #[true, true, true, true, true, true, true, true, true, true, false, false, false, false, false, false, false, false, false, false, false, false, false, false, false, false, false, false, false, false, false, false, false] rfl rfl (any_of HT_.out (by kernel_rfl)) (fun _ _ _ h => h) (Or.inl ⟨by rfl, ?_⟩) ?_ ?_
        rotate_left
        ·intro w'
         go_simp
         with_reducible rfl
        rotate_left
        ·simp only [Act.put, List.setIfInBounds_toArray, List.set_cons_zero, List.set_cons_succ, i64_w, i32_w]
         rfl
        refine pure_ (i := 10) (N := some 41) (v := ?_) (a' := ?_) #[true, true, true, true, true, true, true, true, true, true, true, false, false, false, false, false, false, false, false, false, false, false, false, false, false, false, false, false, false, false, false, false, false] rfl rfl (any_of HT_.out (by kernel_rfl)) (fun _ _ _ h => h) (Or.inl ⟨by rfl, ?_⟩) ?_ ?_
        rotate_left
        ·intro w'
         go_simp
         with_reducible rfl
        rotate_left
        ·simp only [Act.put, List.setIfInBounds_toArray, List.set_cons_zero, List.set_cons_succ, i64_w, i32_w]
         rfl
        refine pure_ (i := 11) (N := some 42) (v := ?_) (a' := ?_) #[true, true, true, true, true, true, true, true, true, true, true, true, false, false, false, false, false, false, false, false, false, false, false, false, false, false, false, false, false, false, false, false, false] rfl rfl (any_of HT_.out (by kernel_rfl)) (fun _ _ _ h => h) (Or.inl ⟨by rfl, ?_⟩) ?_ ?_
        rotate_left
        ·intro w'
         go_simp
         with_reducible rfl
        rotate_left
        ·simp only [Act.put, List.setIfInBounds_toArray, List.set_cons_zero, List.set_cons_succ, i64_w, i32_w]
         rfl
        refine pure_ (i := 12) (N := some 43) (v := ?_) (a' := ?_) #[true, true, true, true, true, true, true, true, true, true, true, true, true, false, false, false, false, false, false, false, false, false, false, false, false, false, false, false, false, false, false, false, false] rfl rfl (any_of HT_.out (by kernel_rfl)) (fun _ _ _ h => h) (Or.inl ⟨by rfl, ?_⟩) ?_ ?_
        rotate_left
        ·intro w'
         go_simp
         with_reducible rfl
        rotate_left
        ·simp only [Act.put, List.setIfInBounds_toArray, List.set_cons_zero, List.set_cons_succ, i64_w, i32_w]
         rfl
        refine pure_ (i := 13) (N := some 44) (v := ?_) (a' := ?_) #[true, true, true, true, true, true, true, true, true, true, true, true, true, true, false, false, false, false, false, false, false, false, false, false, false, false, false, false, false, false, false, false, false] rfl rfl (any_of HT_.out (by kernel_rfl)) (fun _ _ _ h => h) (Or.inl ⟨by rfl, ?_⟩) ?_ ?_
        rotate_left
        ·intro w'
         go_simp
         with_reducible rfl
        rotate_left
        ·simp only [Act.put, List.setIfInBounds_toArray, List.set_cons_zero, List.set_cons_succ, i64_w, i32_w]
         rfl
        refine pure_ (i := 14) (N := some 45) (v := ?_) (a' := ?_) #[true, true, true, true, true, true, true, true, true, true, true, true, true, true, true, false, false, false, false, false, false, false, false, false, false, false, false, false, false, false, false, false, false] rfl rfl (any_of HT_.out (by kernel_rfl)) (fun _ _ _ h => h) (Or.inl ⟨by rfl, ?_⟩) ?_ ?_
        rotate_left
        ·intro w'
         go_simp
         with_reducible rfl
        rotate_left
        ·simp only [Act.put, List.setIfInBounds_toArray, List.set_cons_zero, List.set_cons_succ, i64_w, i32_w]
         rfl
        refine pure_ (i := 15) (N := some 46) (v := undef) (a' := ?_) #[true, true, true, true, true, true, true, true, true, true, true, true, true, true, true, true, false, false, false, false, false, false, false, false, false, false, false, false, false, false, false, false, false] rfl rfl (any_of HT_.out (by kernel_rfl)) (fun _ _ _ h => h) (Or.inr ⟨by rfl, rfl⟩) ?_ ?_
        rotate_left
        ·simp only [Act.put, List.setIfInBounds_toArray, List.set_cons_zero, List.set_cons_succ, i64_w, i32_w]
         rfl
        refine pure_ (i := 16) (N := some 47) (v := undef) (a' := ?_) #[true, true, true, true, true, true, true, true, true, true, true, true, true, true, true, true, true, false, false, false, false, false, false, false, false, false, false, false, false, false, false, false, false] rfl rfl (any_of HT_.out (by kernel_rfl)) (fun _ _ _ h => h) (Or.inr ⟨by rfl, rfl⟩) ?_ ?_
        rotate_left
        ·simp only [Act.put, List.setIfInBounds_toArray, List.set_cons_zero, List.set_cons_succ, i64_w, i32_w]
         rfl
        refine pure_ (i := 17) (N := some 48) (v := undef) (a' := ?_) #[true, true, true, true, true, true, true, true, true, true, true, true, true, true, true, true, true, true, false, false, false, false, false, false, false, false, false, false, false, false, false, false, false] rfl rfl (any_of HT_.out (by kernel_rfl)) (fun _ _ _ h => h) (Or.inr ⟨by rfl, rfl⟩) ?_ ?_
        rotate_left
        ·simp only [Act.put, List.setIfInBounds_toArray, List.set_cons_zero, List.set_cons_succ, i64_w, i32_w]
         rfl
        refine pure_ (i := 18) (N := some 49) (v := undef) (a' := ?_) #[true, true, true, true, true, true, true, true, true, true, true, true, true, true, true, true, true, true, true, false, false, false, false, false, false, false, false, false, false, false, false, false, false] rfl rfl (any_of HT_.out (by kernel_rfl)) (fun _ _ _ h => h) (Or.inr ⟨by rfl, rfl⟩) ?_ ?_
        rotate_left
        ·simp only [Act.put, List.setIfInBounds_toArray, List.set_cons_zero, List.set_cons_succ, i64_w, i32_w]
         rfl
        refine pure_ (i := 19) (N := some 50) (v := undef) (a' := ?_) #[true, true, true, true, true, true, true, true, true, true, true, true, true, true, true, true, true, true, true, true, false, false, false, false, false, false, false, false, false, false, false, false, false] rfl rfl (any_of HT_.out (by kernel_rfl)) (fun _ _ _ h => h) (Or.inr ⟨by rfl, rfl⟩) ?_ ?_
        rotate_left
        ·simp only [Act.put, List.setIfInBounds_toArray, List.set_cons_zero, List.set_cons_succ, i64_w, i32_w]
         rfl
        refine pure_ (i := 20) (N := some 51) (v := undef) (a' := ?_) #[true, true, true, true, true, true, true, true, true, true, true, true, true, true, true, true, true, true, true, true, true, false, false, false, false, false, false, false, false, false, false, false, false] rfl rfl (any_of HT_.out (by kernel_rfl)) (fun _ _ _ h => h) (Or.inr ⟨by rfl, rfl⟩) ?_ ?_
        rotate_left
        ·simp only [Act.put, List.setIfInBounds_toArray, List.set_cons_zero, List.set_cons_succ, i64_w, i32_w]
         rfl
        refine pure_ (i := 21) (N := some 52) (v := undef) (a' := ?_) #[true, true, true, true, true, true, true, true, true, true, true, true, true, true, true, true, true, true, true, true, true, true, false, false, false, false, false, false, false, false, false, false, false] rfl rfl (any_of HT_.out (by kernel_rfl)) (fun _ _ _ h => h) (Or.inr ⟨by rfl, rfl⟩) ?_ ?_
        rotate_left
        ·simp only [Act.put, List.setIfInBounds_toArray, List.set_cons_zero, List.set_cons_succ, i64_w, i32_w]
         rfl
        refine pure_ (i := 22) (N := some 53) (v := undef) (a' := ?_) #[true, true, true, true, true, true, true, true, true, true, true, true, true, true, true, true, true, true, true, true, true, true, true, false, false, false, false, false, false, false, false, false, false] rfl rfl (any_of HT_.out (by kernel_rfl)) (fun _ _ _ h => h) (Or.inr ⟨by rfl, rfl⟩) ?_ ?_
        rotate_left
        ·simp only [Act.put, List.setIfInBounds_toArray, List.set_cons_zero, List.set_cons_succ, i64_w, i32_w]
         rfl
        refine pure_ (i := 23) (N := some 54) (v := undef) (a' := ?_) #[true, true, true, true, true, true, true, true, true, true, true, true, true, true, true, true, true, true, true, true, true, true, true, true, false, false, false, false, false, false, false, false, false] rfl rfl (any_of HT_.out (by kernel_rfl)) (fun _ _ _ h => h) (Or.inr ⟨by rfl, rfl⟩) ?_ ?_
        rotate_left
        ·simp only [Act.put, List.setIfInBounds_toArray, List.set_cons_zero, List.set_cons_succ, i64_w, i32_w]
         rfl
        refine pure_ (i := 24) (N := some 55) (v := undef) (a' := ?_) #[true, true, true, true, true, true, true, true, true, true, true, true, true, true, true, true, true, true, true, true, true, true, true, true, true, false, false, false, false, false, false, false, false] rfl rfl (any_of HT_.out (by kernel_rfl)) (fun _ _ _ h => h) (Or.inr ⟨by rfl, rfl⟩) ?_ ?_
        rotate_left
        ·simp only [Act.put, List.setIfInBounds_toArray, List.set_cons_zero, List.set_cons_succ, i64_w, i32_w]
         rfl
        refine pure_ (i := 25) (N := some 56) (v := undef) (a' := ?_) #[true, true, true, true, true, true, true, true, true, true, true, true, true, true, true, true, true, true, true, true, true, true, true, true, true, true, false, false, false, false, false, false, false] rfl rfl (any_of HT_.out (by kernel_rfl)) (fun _ _ _ h => h) (Or.inr ⟨by rfl, rfl⟩) ?_ ?_
        rotate_left
        ·simp only [Act.put, List.setIfInBounds_toArray, List.set_cons_zero, List.set_cons_succ, i64_w, i32_w]
         rfl
        refine pure_ (i := 26) (N := some 57) (v := undef) (a' := ?_) #[true, true, true, true, true, true, true, true, true, true, true, true, true, true, true, true, true, true, true, true, true, true, true, true, true, true, true, false, false, false, false, false, false] rfl rfl (any_of HT_.out (by kernel_rfl)) (fun _ _ _ h => h) (Or.inr ⟨by rfl, rfl⟩) ?_ ?_
        rotate_left
        ·simp only [Act.put, List.setIfInBounds_toArray, List.set_cons_zero, List.set_cons_succ, i64_w, i32_w]
         rfl
        refine pure_ (i := 27) (N := some 58) (v := undef) (a' := ?_) #[true, true, true, true, true, true, true, true, true, true, true, true, true, true, true, true, true, true, true, true, true, true, true, true, true, true, true, true, false, false, false, false, false] rfl rfl (any_of HT_.out (by kernel_rfl)) (fun _ _ _ h => h) (Or.inr ⟨by rfl, rfl⟩) ?_ ?_
        rotate_left
        ·simp only [Act.put, List.setIfInBounds_toArray, List.set_cons_zero, List.set_cons_succ, i64_w, i32_w]
         rfl
        refine pure_ (i := 28) (N := some 59) (v := undef) (a' := ?_) #[true, true, true, true, true, true, true, true, true, true, true, true, true, true, true, true, true, true, true, true, true, true, true, true, true, true, true, true, true, false, false, false, false] rfl rfl (any_of HT_.out (by kernel_rfl)) (fun _ _ _ h => h) (Or.inr ⟨by rfl, rfl⟩) ?_ ?_
        rotate_left
        ·simp only [Act.put, List.setIfInBounds_toArray, List.set_cons_zero, List.set_cons_succ, i64_w, i32_w]
         rfl
        refine pure_ (i := 29) (N := some 60) (v := undef) (a' := ?_) #[true, true, true, true, true, true, true, true, true, true, true, true, true, true, true, true, true, true, true, true, true, true, true, true, true, true, true, true, true, true, false, false, false] rfl rfl (any_of HT_.out (by kernel_rfl)) (fun _ _ _ h => h) (Or.inr ⟨by rfl, rfl⟩) ?_ ?_
        rotate_left
        ·simp only [Act.put, List.setIfInBounds_toArray, List.set_cons_zero, List.set_cons_succ, i64_w, i32_w]
         rfl
        refine pure_ (i := 30) (N := some 61) (v := undef) (a' := ?_) #[true, true, true, true, true, true, true, true, true, true, true, true, true, true, true, true, true, true, true, true, true, true, true, true, true, true, true, true, true, true, true, false, false] rfl rfl (any_of HT_.out (by kernel_rfl)) (fun _ _ _ h => h) (Or.inr ⟨by rfl, rfl⟩) ?_ ?_
        rotate_left
        ·simp only [Act.put, List.setIfInBounds_toArray, List.set_cons_zero, List.set_cons_succ, i64_w, i32_w]
         rfl
        refine pure_ (i := 31) (N := some 62) (v := undef) (a' := ?_) #[true, true, true, true, true, true, true, true, true, true, true, true, true, true, true, true, true, true, true, true, true, true, true, true, true, true, true, true, true, true, true, true, false] rfl rfl (any_of HT_.out (by kernel_rfl)) (fun _ _ _ h => h) (Or.inr ⟨by rfl, rfl⟩) ?_ ?_
        rotate_left
        ·simp only [Act.put, List.setIfInBounds_toArray, List.set_cons_zero, List.set_cons_succ, i64_w, i32_w]
         rfl
        refine pure_ (i := 32) (N := some 63) (v := ?_) (a' := ?_) #[true, true, true, true, true, true, true, true, true, true, true, true, true, true, true, true, true, true, true, true, true, true, true, true, true, true, true, true, true, true, true, true, true] rfl rfl (any_of HT_.out (by kernel_rfl)) (fun _ _ _ h => h) (Or.inl ⟨by rfl, ?_⟩) ?_ ?_
        rotate_left
        ·intro w'
         go_simp
         with_reducible rfl
        rotate_left
        ·simp only [Act.put, List.setIfInBounds_toArray, List.set_cons_zero, List.set_cons_succ, i64_w, i32_w]
         rfl
        refine done_ (done_of HT_.out (by kernel_rfl)) ?_
        try go_wp2
        go_ret2
        exact ⟨by first | rfl | (simp [errW_none, errW_some] <;> rfl) | (simp [*, errW_none, errW_some] <;> rfl), by repeat (first | (with_reducible first | exact HB.out | apply below_alloc | apply pw_below_drewN | apply below_drew1) | exact HB.out)⟩
      ·rw [if_neg c15] at H
       have c15b0 : decide (x7_2 < (wrap64 ((l0.length : Int) - x6_2))) = false := decide_eq_false c15
       clear c15
       simp only [Option.some.injEq, Prod.mk.injEq] at H
       obtain ⟨rfl, rfl⟩ := H
       try go_wp2
       have n0_ := Aside0.mk (below_drew1 HB.out)
       clear HB
       have HB := n0_
       clear n0_
       refine start_ (n := 33) (S := fun w' => True) (ds := []) #[false, false, false, false, false, false, false, false, false, false, false, false, false, false, false, false, false, false, false, false, false, false, false, false, false, false, false, false, false, false, false, false, false] (by kernel_rfl) rfl rfl trivial (fun hHeld => ?_); refine with_tabW decoupageref29_Ends.tab5 decoupageref29_Ends.bits5 (fun HT_ HW_ => ?_)
       generalize wr.drew = w30 at HB hHeld ⊢
       refine pure_ (i := 0) (N := some 31) (v := ?_) (a' := ?_) #[true, false, false, false, false, false, false, false, false, false, false, false, false, false, false, false, false, false, false, false, false, false, false, false, false, false, false, false, false, false, false, false, false] rfl rfl (any_of HT_.out (by kernel_rfl)) (fun _ _ _ h => h) (Or.inl ⟨by rfl, ?_⟩) ?_ ?_
       rotate_left
       ·intro w'
        go_simp
        with_reducible rfl
       rotate_left
       ·simp only [Act.put, List.setIfInBounds_toArray, List.set_cons_zero, List.set_cons_succ, i64_w, i32_w]
        rfl
       refine pure_ (i := 1) (N := some 32) (v := ?_) (a' := ?_) #[true, true, false, false, false, false, false, false, false, false, false, false, false, false, false, false, false, false, false, false, false, false, false, false, false, false, false, false, false, false, false, false, false] rfl rfl (any_of HT_.out (by kernel_rfl)) (fun _ _ _ h => h) (Or.inl ⟨by rfl, ?_⟩) ?_ ?_
       rotate_left
       ·intro w'
        go_simp
        with_reducible rfl
       rotate_left
       ·simp only [Act.put, List.setIfInBounds_toArray, List.set_cons_zero, List.set_cons_succ, i64_w, i32_w]
        rfl
       refine pure_ (i := 2) (N := some 33) (v := ?_) (a' := ?_) #[true, true, true, false, false, false, false, false, false, false, false, false, false, false, false, false, false, false, false, false, false, false, false, false, false, false, false, false, false, false, false, false, false] rfl rfl (any_of HT_.out (by kernel_rfl)) (fun _ _ _ h => h) (Or.inl ⟨by rfl, ?_⟩) ?_ ?_
       rotate_left
       ·intro w'
        go_simp
        with_reducible rfl
       rotate_left
       ·simp only [Act.put, List.setIfInBounds_toArray, List.set_cons_zero, List.set_cons_succ, i64_w, i32_w]
        rfl
       refine pure_ (i := 3) (N := some 34) (v := ?_) (a' := ?_) #[true, true, true, true, false, false, false, false, false, false, false, false, false, false, false, false, false, false, false, false, false, false, false, false, false, false, false, false, false, false, false, false, false] rfl rfl (any_of HT_.out (by kernel_rfl)) (fun _ _ _ h => h) (Or.inl ⟨by rfl, ?_⟩) ?_ ?_
       rotate_left
       ·intro w'
        go_simp
        with_reducible rfl
       rotate_left
       ·simp only [Act.put, List.setIfInBounds_toArray, List.set_cons_zero, List.set_cons_succ, i64_w, i32_w]
        rfl
       refine pure_ (i := 4) (N := some 35) (v := ?_) (a' := ?_) #[true, true, true, true, true, false, false, false, false, false, false, false, false, false, false, false, false, false, false, false, false, false, false, false, false, false, false, false, false, false, false, false, false] rfl rfl (any_of HT_.out (by kernel_rfl)) (fun _ _ _ h => h) (Or.inl ⟨by rfl, ?_⟩) ?_ ?_
       rotate_left
       ·intro w'
        go_simp
        with_reducible rfl
       rotate_left
       ·simp only [Act.put, List.setIfInBounds_toArray, List.set_cons_zero, List.set_cons_succ, i64_w, i32_w]
        rfl
       refine pure_ (i := 5) (N := some 36) (v := ?_) (a' := ?_) #[true, true, true, true, true, true, false, false, false, false, false, false, false, false, false, false, false, false, false, false, false, false, false, false, false, false, false, false, false, false, false, false, false] rfl rfl (any_of HT_.out (by kernel_rfl)) (fun _ _ _ h => h) (Or.inl ⟨by rfl, ?_⟩) ?_ ?_
       rotate_left
       ·intro w'
        go_simp
        with_reducible rfl
       rotate_left
       ·simp only [Act.put, List.setIfInBounds_toArray, List.set_cons_zero, List.set_cons_succ, i64_w, i32_w]
        rfl
       refine pure_ (i := 6) (N := some 37) (v := ?_) (a' := ?_) #[true, true, true, true, true, true, true, false, false, false, false, false, false, false, false, false, false, false, false, false, false, false, false, false, false, false, false, false, false, false, false, false, false] rfl rfl (any_of HT_.out (by kernel_rfl)) (fun _ _ _ h => h) (Or.inl ⟨by rfl, ?_⟩) ?_ ?_
       rotate_left
       ·intro w'
        go_simp
        with_reducible rfl
       rotate_left
       ·simp only [Act.put, List.setIfInBounds_toArray, List.set_cons_zero, List.set_cons_succ, i64_w, i32_w]
        rfl
       refine pure_ (i := 7) (N := some 38) (v := undef) (a' := ?_) #[true, true, true, true, true, true, true, true, false, false, false, false, false, false, false, false, false, false, false, false, false, false, false, false, false, false, false, false, false, false, false, false, false] rfl rfl (any_of HT_.out (by kernel_rfl)) (fun _ _ _ h => h) (Or.inr ⟨by rfl, rfl⟩) ?_ ?_
       rotate_left
       ·simp only [Act.put, List.setIfInBounds_toArray, List.set_cons_zero, List.set_cons_succ, i64_w, i32_w]
        rfl
       refine pure_ (i := 8) (N := some 39) (v := undef) (a' := ?_) #[true, true, true, true, true, true, true, true, true, false, false, false, false, false, false, false, false, false, false, false, false, false, false, false, false, false, false, false, false, false, false, false, false] rfl rfl (any_of HT_.out (by kernel_rfl)) (fun _ _ _ h => h) (Or.inr ⟨by rfl, rfl⟩) ?_ ?_
       rotate_left
       ·simp only [Act.put, List.setIfInBounds_toArray, List.set_cons_zero, List.set_cons_succ, i64_w, i32_w]
        rfl
       refine pure_ (i := 9) (N := some 40) (v := undef) (a' := ?_) #[true, true, true, true, true, true, true, true, true, true, false, false, false, false, false, false, false, false, false, false, false, false, false, false, false, false, false, false, false, false, false, false, false] rfl rfl (any_of HT_.out (by kernel_rfl)) (fun _ _ _ h => h) (Or.inr ⟨by rfl, rfl⟩) ?_ ?_
       rotate_left
       ·simp only [Act.put, List.setIfInBounds_toArray, List.set_cons_zero, List.set_cons_succ, i64_w, i32_w]
        rfl
       refine pure_ (i := 10) (N := some 41) (v := undef) (a' := ?_) #[true, true, true, true, true, true, true, true, true, true, true, false, false, false, false, false, false, false, false, false, false, false, false, false, false, false, false, false, false, false, false, false, false] rfl rfl (any_of HT_.out (by kernel_rfl)) (fun _ _ _ h => h) (Or.inr ⟨by rfl, rfl⟩) ?_ ?_
       rotate_left
       ·simp only [Act.put, List.setIfInBounds_toArray, List.set_cons_zero, List.set_cons_succ, i64_w, i32_w]
        rfl
       refine pure_ (i := 11) (N := some 42) (v := undef) (a' := ?_) #[true, true, true, true, true, true, true, true, true, true, true, true, false, false, false, false, false, false, false, false, false, false, false, false, false, false, false, false, false, false, false, false, false] rfl rfl (any_of HT_.out (by kernel_rfl)) (fun _ _ _ h => h) (Or.inr ⟨by rfl, rfl⟩) ?_ ?_
       rotate_left
       ·simp only [Act.put, List.setIfInBounds_toArray, List.set_cons_zero, List.set_cons_succ, i64_w, i32_w]
        rfl
       refine pure_ (i := 12) (N := some 43) (v := undef) (a' := ?_) #[true, true, true, true, true, true, true, true, true, true, true, true, true, false, false, false, false, false, false, false, false, false, false, false, false, false, false, false, false, false, false, false, false] rfl rfl (any_of HT_.out (by kernel_rfl)) (fun _ _ _ h => h) (Or.inr ⟨by rfl, rfl⟩) ?_ ?_
       rotate_left
       ·simp only [Act.put, List.setIfInBounds_toArray, List.set_cons_zero, List.set_cons_succ, i64_w, i32_w]
        rfl
       refine pure_ (i := 13) (N := some 44) (v := ?_) (a' := ?_) #[true, true, true, true, true, true, true, true, true, true, true, true, true, true, false, false, false, false, false, false, false, false, false, false, false, false, false, false, false, false, false, false, false] rfl rfl (any_of HT_.out (by kernel_rfl)) (fun _ _ _ h => h) (Or.inl ⟨by rfl, ?_⟩) ?_ ?_
       rotate_left
       ·intro w'
        go_simp
        with_reducible rfl
       rotate_left
       ·simp only [Act.put, List.setIfInBounds_toArray, List.set_cons_zero, List.set_cons_succ, i64_w, i32_w]
        rfl
       refine pure_ (i := 14) (N := some 45) (v := ?_) (a' := ?_) #[true, true, true, true, true, true, true, true, true, true, true, true, true, true, true, false, false, false, false, false, false, false, false, false, false, false, false, false, false, false, false, false, false] rfl rfl (any_of HT_.out (by kernel_rfl)) (fun _ _ _ h => h) (Or.inl ⟨by rfl, ?_⟩) ?_ ?_
       rotate_left
       ·intro w'
        go_simp
        with_reducible rfl
       rotate_left
       ·simp only [Act.put, List.setIfInBounds_toArray, List.set_cons_zero, List.set_cons_succ, i64_w, i32_w]
        rfl
       refine pure_ (i := 15) (N := some 46) (v := undef) (a' := ?_) #[true, true, true, true, true, true, true, true, true, true, true, true, true, true, true, true, false, false, false, false, false, false, false, false, false, false, false, false, false, false, false, false, false] rfl rfl (any_of HT_.out (by kernel_rfl)) (fun _ _ _ h => h) (Or.inr ⟨by rfl, rfl⟩) ?_ ?_
       rotate_left
       ·simp only [Act.put, List.setIfInBounds_toArray, List.set_cons_zero, List.set_cons_succ, i64_w, i32_w]
        rfl
       refine pure_ (i := 16) (N := some 47) (v := undef) (a' := ?_) #[true, true, true, true, true, true, true, true, true, true, true, true, true, true, true, true, true, false, false, false, false, false, false, false, false, false, false, false, false, false, false, false, false] rfl rfl (any_of HT_.out (by kernel_rfl)) (fun _ _ _ h => h) (Or.inr ⟨by rfl, rfl⟩) ?_ ?_
       rotate_left
       ·simp only [Act.put, List.setIfInBounds_toArray, List.set_cons_zero, List.set_cons_succ, i64_w, i32_w]
        rfl
       refine pure_ (i := 17) (N := some 48) (v := undef) (a' := ?_) #[true, true, true, true, true, true, true, true, true, true, true, true, true, true, true, true, true, true, false, false, false, false, false, false, false, false, false, false, false, false, false, false, false] rfl rfl (any_of HT_.out (by kernel_rfl)) (fun _ _ _ h => h) (Or.inr ⟨by rfl, rfl⟩) ?_ ?_
       rotate_left
       ·simp only [Act.put, List.setIfInBounds_toArray, List.set_cons_zero, List.set_cons_succ, i64_w, i32_w]
        rfl
       refine pure_ (i := 18) (N := some 49) (v := undef) (a' := ?_) #[true, true, true, true, true, true, true, true, true, true, true, true, true, true, true, true, true, true, true, false, false, false, false, false, false, false, false, false, false, false, false, false, false] rfl rfl (any_of HT_.out (by kernel_rfl)) (fun _ _ _ h => h) (Or.inr ⟨by rfl, rfl⟩) ?_ ?_
       rotate_left
       ·simp only [Act.put, List.setIfInBounds_toArray, List.set_cons_zero, List.set_cons_succ, i64_w, i32_w]
        rfl
       refine pure_ (i := 19) (N := some 50) (v := undef) (a' := ?_) #[true, true, true, true, true, true, true, true, true, true, true, true, true, true, true, true, true, true, true, true, false, false, false, false, false, false, false, false, false, false, false, false, false] rfl rfl (any_of HT_.out (by kernel_rfl)) (fun _ _ _ h => h) (Or.inr ⟨by rfl, rfl⟩) ?_ ?_
       rotate_left
       ·simp only [Act.put, List.setIfInBounds_toArray, List.set_cons_zero, List.set_cons_succ, i64_w, i32_w]
        rfl
       refine pure_ (i := 20) (N := some 51) (v := undef) (a' := ?_) #[true, true, true, true, true, true, true, true, true, true, true, true, true, true, true, true, true, true, true, true, true, false, false, false, false, false, false, false, false, false, false, false, false] rfl rfl (any_of HT_.out (by kernel_rfl)) (fun _ _ _ h => h) (Or.inr ⟨by rfl, rfl⟩) ?_ ?_
       rotate_left
       ·simp only [Act.put, List.setIfInBounds_toArray, List.set_cons_zero, List.set_cons_succ, i64_w, i32_w]
        rfl
       refine pure_ (i := 21) (N := some 52) (v := undef) (a' := ?_) #[true, true, true, true, true, true, true, true, true, true, true, true, true, true, true, true, true, true, true, true, true, true, false, false, false, false, false, false, false, false, false, false, false] rfl rfl (any_of HT_.out (by kernel_rfl)) (fun _ _ _ h => h) (Or.inr ⟨by rfl, rfl⟩) ?_ ?_
       rotate_left
       ·simp only [Act.put, List.setIfInBounds_toArray, List.set_cons_zero, List.set_cons_succ, i64_w, i32_w]
        rfl
       refine pure_ (i := 22) (N := some 53) (v := undef) (a' := ?_) #[true, true, true, true, true, true, true, true, true, true, true, true, true, true, true, true, true, true, true, true, true, true, true, false, false, false, false, false, false, false, false, false, false] rfl rfl (any_of HT_.out (by kernel_rfl)) (fun _ _ _ h => h) (Or.inr ⟨by rfl, rfl⟩) ?_ ?_
       rotate_left
       ·simp only [Act.put, List.setIfInBounds_toArray, List.set_cons_zero, List.set_cons_succ, i64_w, i32_w]
        rfl
       refine pure_ (i := 23) (N := some 54) (v := undef) (a' := ?_) #[true, true, true, true, true, true, true, true, true, true, true, true, true, true, true, true, true, true, true, true, true, true, true, true, false, false, false, false, false, false, false, false, false] rfl rfl (any_of HT_.out (by kernel_rfl)) (fun _ _ _ h => h) (Or.inr ⟨by rfl, rfl⟩) ?_ ?_
       rotate_left
       ·simp only [Act.put, List.setIfInBounds_toArray, List.set_cons_zero, List.set_cons_succ, i64_w, i32_w]
        rfl
       refine pure_ (i := 24) (N := some 55) (v := undef) (a' := ?_) #[true, true, true, true, true, true, true, true, true, true, true, true, true, true, true, true, true, true, true, true, true, true, true, true, true, false, false, false, false, false, false, false, false] rfl rfl (any_of HT_.out (by kernel_rfl)) (fun _ _ _ h => h) (Or.inr ⟨by rfl, rfl⟩) ?_ ?_
       rotate_left
       ·simp only [Act.put, List.setIfInBounds_toArray, List.set_cons_zero, List.set_cons_succ, i64_w, i32_w]
        rfl
       refine pure_ (i := 25) (N := some 56) (v := undef) (a' := ?_) #[true, true, true, true, true, true, true, true, true, true, true, true, true, true, true, true, true, true, true, true, true, true, true, true, true, true, false, false, false, false, false, false, false] rfl rfl (any_of HT_.out (by kernel_rfl)) (fun _ _ _ h => h) (Or.inr ⟨by rfl, rfl⟩) ?_ ?_
       rotate_left
       ·simp only [Act.put, List.setIfInBounds_toArray, List.set_cons_zero, List.set_cons_succ, i64_w, i32_w]
        rfl
       refine pure_ (i := 26) (N := some 57) (v := undef) (a' := ?_) #[true, true, true, true, true, true, true, true, true, true, true, true, true, true, true, true, true, true, true, true, true, true, true, true, true, true, true, false, false, false, false, false, false] rfl rfl (any_of HT_.out (by kernel_rfl)) (fun _ _ _ h => h) (Or.inr ⟨by rfl, rfl⟩) ?_ ?_
       rotate_left
       ·simp only [Act.put, List.setIfInBounds_toArray, List.set_cons_zero, List.set_cons_succ, i64_w, i32_w]
        rfl
       refine pure_ (i := 27) (N := some 58) (v := undef) (a' := ?_) #[true, true, true, true, true, true, true, true, true, true, true, true, true, true, true, true, true, true, true, true, true, true, true, true, true, true, true, true, false, false, false, false, false] rfl rfl (any_of HT_.out (by kernel_rfl)) (fun _ _ _ h => h) (Or.inr ⟨by rfl, rfl⟩) ?_ ?_
       rotate_left
       ·simp only [Act.put, List.setIfInBounds_toArray, List.set_cons_zero, List.set_cons_succ, i64_w, i32_w]
        rfl
       refine pure_ (i := 28) (N := some 59) (v := undef) (a' := ?_) #[true, true, true, true, true, true, true, true, true, true, true, true, true, true, true, true, true, true, true, true, true, true, true, true, true, true, true, true, true, false, false, false, false] rfl rfl (any_of HT_.out (by kernel_rfl)) (fun _ _ _ h => h) (Or.inr ⟨by rfl, rfl⟩) ?_ ?_
       rotate_left
       ·simp only [Act.put, List.setIfInBounds_toArray, List.set_cons_zero, List.set_cons_succ, i64_w, i32_w]
        rfl
       refine pure_ (i := 29) (N := some 60) (v := undef) (a' := ?_) #[true, true, true, true, true, true, true, true, true, true, true, true, true, true, true, true, true, true, true, true, true, true, true, true, true, true, true, true, true, true, false, false, false] rfl rfl (any_of HT_.out (by kernel_rfl)) (fun _ _ _ h => h) (Or.inr ⟨by rfl, rfl⟩) ?_ ?_
       rotate_left
       ·simp only [Act.put, List.setIfInBounds_toArray, List.set_cons_zero, List.set_cons_succ, i64_w, i32_w]
        rfl
       refine pure_ (i := 30) (N := some 61) (v := undef) (a' := ?_) #[true, true, true, true, true, true, true, true, true, true, true, true, true, true, true, true, true, true, true, true, true, true, true, true, true, true, true, true, true, true, true, false, false] rfl rfl (any_of HT_.out (by kernel_rfl)) (fun _ _ _ h => h) (Or.inr ⟨by rfl, rfl⟩) ?_ ?_
       rotate_left
       ·simp only [Act.put, List.setIfInBounds_toArray, List.set_cons_zero, List.set_cons_succ, i64_w, i32_w]
        rfl
       refine pure_ (i := 31) (N := some 62) (v := undef) (a' := ?_) #[true, true, true, true, true, true, true, true, true, true, true, true, true, true, true, true, true, true, true, true, true, true, true, true, true, true, true, true, true, true, true, true, false] rfl rfl (any_of HT_.out (by kernel_rfl)) (fun _ _ _ h => h) (Or.inr ⟨by rfl, rfl⟩) ?_ ?_
       rotate_left
       ·simp only [Act.put, List.setIfInBounds_toArray, List.set_cons_zero, List.set_cons_succ, i64_w, i32_w]
        rfl
       refine pure_ (i := 32) (N := some 63) (v := ?_) (a' := ?_) #[true, true, true, true, true, true, true, true, true, true, true, true, true, true, true, true, true, true, true, true, true, true, true, true, true, true, true, true, true, true, true, true, true] rfl rfl (any_of HT_.out (by kernel_rfl)) (fun _ _ _ h => h) (Or.inl ⟨by rfl, ?_⟩) ?_ ?_
       rotate_left
       ·intro w'
        go_simp
        with_reducible rfl
       rotate_left
       ·simp only [Act.put, List.setIfInBounds_toArray, List.set_cons_zero, List.set_cons_succ, i64_w, i32_w]
        rfl
       refine done_ (done_of HT_.out (by kernel_rfl)) ?_
       try go_wp2
       go_ret2
       exact ⟨by first | rfl | (simp [errW_none, errW_some] <;> rfl) | (simp [*, errW_none, errW_some] <;> rfl), by repeat (first | (with_reducible first | exact HB.out | apply below_alloc | apply pw_below_drewN | apply below_drew1) | exact HB.out)⟩

end Go.Proofs.Ytppklhfiajjhmaa.PHarmTells
