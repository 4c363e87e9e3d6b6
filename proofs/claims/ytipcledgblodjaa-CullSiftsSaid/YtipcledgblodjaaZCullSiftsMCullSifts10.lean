/- What is proved: contracts of functions that the law CullSifts reaches, written by program. Conditions: none but those in each statement. -/
import Derived.Test.YtipcledgblodjaaZCullSiftsPCullSiftsx0
import Derived.Test.YtipcledgblodjaaZCullSiftsMCullSifts6
import Derived.Test.YtipcledgblodjaaZCullSiftsMCullSifts8
import Derived.Test.YtipcledgblodjaaZCullSiftsMCullSifts9
namespace Go.Proofs.Ytipcledgblodjaa.PCullSifts
open Go.RowKit Go.Proofs.YtipcledgblodjaaW.PrintWords Go.Proofs.YtipcledgblodjaaW.PrintLast Go.Proofs.YtipcledgblodjaaW.PrintMore
attribute [local go_sem] max2_int min2_int max_two min_two max_three min_three max_four min_four   -- for this text's walks alone
set_option linter.unusedVariables false
set_option linter.unusedSimpArgs false

/-! ### decoupageref27_backs: function 52 -/
def decoupageref27_backs.l0 : Nat → List (S26) → List (S24) → Int → Option ((List (S24)))
 | 0, _, _, _ => none
 | k + 1, x0, x5, x6 => if x6 < (x0.length : Int) then (if 0 ≤ x6 then (if ((rd_T26 x0 x6).f1) = 0 then ((decoupageref27_Seen.f k ((rd_T26 x0 x6).f0) ((rd_T26 x0 x6).f1) ((rd_T26 x0 x6).f2.f0) ((rd_T26 x0 x6).f2.f1) ((rd_T26 x0 x6).f2.f2) ((rd_T26 x0 x6).f2.f3) ((rd_T26 x0 x6).f3.f0) ((rd_T26 x0 x6).f3.f1) ((rd_T26 x0 x6).f3.f2) ((rd_T26 x0 x6).f3.f3) ((rd_T26 x0 x6).f4.f0) ((rd_T26 x0 x6).f4.f1) ((rd_T26 x0 x6).f4.f2) ((rd_T26 x0 x6).f4.f3) ((rd_T26 x0 x6).f5)).bind fun bt267 => (if x5.length < 4398046511104 then (decoupageref27_backs.l0 k x0 (x5 ++ [(⟨bt267.1, bt267.2.1, bt267.2.2.1, bt267.2.2.2⟩ : S24)]) (wrap64 (x6 + 1))) else (none))) else (decoupageref27_backs.l0 k x0 x5 (wrap64 (x6 + 1)))) else (none)) else (some x5)
def decoupageref27_backs.f (k : Nat) (l0 : List (S26)) (a1 : Int) : Option ((List (S24))) := decoupageref27_backs.l0 k l0 ([] : List (S24)) a1
theorem decoupageref27_backs.mono_l : ∀ k, (∀ y0 y1 y2, LeO (decoupageref27_backs.l0 k y0 y1 y2) (decoupageref27_backs.l0 (k + 1) y0 y1 y2))
 | 0 => fun _ _ _ r h => by simp [decoupageref27_backs.l0] at h
 | k + 1 => by
  have ih0 := decoupageref27_backs.mono_l k
  ·intro y0 y1 y2
   unfold decoupageref27_backs.l0
   repeat' first
   | (with_reducible exact ih0 _ _ _)
   | (with_reducible exact decoupageref27_Seen.mono _ _ _ _ _ _ _ _ _ _ _ _ _ _ _ _)
   | (with_reducible exact LeO.refl _)
   | (with_reducible exact LeO.none _)
   | (with_reducible refine LeO.ite ?_ ?_)
   | (with_reducible refine LeO.bind ?_ (fun _ => ?_))
   | exact ih0 _ _ _
   | exact decoupageref27_Seen.mono _ _ _ _ _ _ _ _ _ _ _ _ _ _ _ _
   | exact LeO.none _
   | refine LeO.ite ?_ ?_
   | refine LeO.bind ?_ (fun _ => ?_)
theorem decoupageref27_backs.mono : ∀ a0 a1 k, LeO (decoupageref27_backs.f k a0 a1) (decoupageref27_backs.f (k + 1) a0 a1) := by
 intro a0 a1 k
 have ih0 := decoupageref27_backs.mono_l k
 unfold decoupageref27_backs.f
 repeat' first
   | (with_reducible exact ih0 _ _ _)
   | (with_reducible exact decoupageref27_Seen.mono _ _ _ _ _ _ _ _ _ _ _ _ _ _ _ _)
   | (with_reducible exact LeO.refl _)
   | (with_reducible exact LeO.none _)
   | (with_reducible refine LeO.ite ?_ ?_)
   | (with_reducible refine LeO.bind ?_ (fun _ => ?_))
   | exact ih0 _ _ _
   | exact decoupageref27_Seen.mono _ _ _ _ _ _ _ _ _ _ _ _ _ _ _ _
   | exact LeO.none _
   | refine LeO.ite ?_ ?_
   | refine LeO.bind ?_ (fun _ => ?_)
set_option maxHeartbeats 8000000 in
set_option maxRecDepth 100000 in
theorem decoupageref27_backs.calls (k : Nat) (A0 : Option Addr) (c0 : Nat) (l0 : List (S26)) (a1 : Int) (r : List (S24)) (w : World) (hr0 : Kd.C k26 w A0 l0.length l0) (hc0 : l0.length ≤ c0) (h : decoupageref27_backs.f k l0 a1 = some r) :
  Calls Try.prog 52 #[.slice A0 l0.length c0, .int .i64 a1] w fun e w' => ∃ v0_ : Value, e = .returned (v0_) ∧ Kd.R k24 24 w' w.heap.size (fun _ => True) v0_ r ∧ Below w.heap.size w w' := by
 have hu26 := Try.underlying26
 have HR0 := Aside0.mk hr0
 have HC0 := Aside0.mk hc0
 clear hr0 hc0
 have HB := Aside0.mk (Below.refl w.heap.size w)
 have H : (decoupageref27_backs.l0 k l0 ([] : List (S24)) a1) = some r := h
 clear h
 have H' := Aside0.mk H
 clear H
 go_enter Try.func52, Try.ntmps52
 go_wp2
 go_loopg [5, 6] k (fun kq v5 v6 w' => ∃ (x5_1 : List (S24)) (x6_1 : Int), v6 = .int .i64 x6_1 ∧ Aside0 (decoupageref27_backs.l0 kq l0 x5_1 x6_1 = some r) ∧ Aside0 (kq ≤ k) ∧ Aside0 (Kd.R k24 24 w' w.heap.size (fun _ => True) v5 x5_1) ∧ Aside0 (Below w.heap.size w w'))
 case atStart => exact ⟨(([] : List (S24))), (a1), (by first | rfl | (simp; done) | (simp [*]; done)), H', ⟨Nat.le_refl _⟩, ⟨by first | exact Kd.R_nil _ _ _ _ _ | exact Kd.N_nil _ _ _ _ _ | exact Kd.V_nil _ _ _ _ _ | exact Kd.Q_nil _ _ _ _ _ | exact Kd.S_nil _ _ _ _ _⟩, ⟨by repeat (first | (with_reducible first | exact HB.out | apply below_alloc | apply pw_below_drewN | apply below_drew1) | exact HB.out)⟩⟩
 case round =>
  clear H'
  try clear p2
  obtain ⟨x5_1, x6_1, rfl, HA, HK1, HO_5, HB⟩ := hrel
  cases gk with
  | zero => exact absurd HA.out (by simp [decoupageref27_backs.l0])
  | succ k1 =>
   have H := HA.out
   clear HA
   simp only [decoupageref27_backs.l0] at H
   by_cases c3 : x6_1 < (l0.length : Int)
   ·rw [if_pos c3] at H
    have c3b0 : decide (x6_1 < (l0.length : Int)) = true := decide_eq_true c3
    clear c3
    by_cases c4 : 0 ≤ x6_1
    ·rw [if_pos c4] at H
     have c4b0 : decide (0 ≤ x6_1) = true := decide_eq_true c4
     clear c4
     by_cases c5 : ((rd_T26 l0 x6_1).f1) = 0
     ·rw [if_pos c5] at H
      have c5b0 : (((rd_T26 l0 x6_1).f1) == 0) = true := beq_iff_eq.mpr c5
      have c5b1 : (((rd_T26 l0 x6_1).f1) != 0) = false := bne_eq_false_iff_eq.mpr c5
      clear c5
      replace H := Option.bind_eq_some_iff.mp H
      obtain ⟨⟨t267, t268, t269, t270⟩, A60, H⟩ := H
      replace H : (if x5_1.length < 4398046511104 then (decoupageref27_backs.l0 k1 l0 (x5_1 ++ [(⟨t267, t268, t269, t270⟩ : S24)]) (wrap64 (x6_1 + 1))) else (none)) = some r := H
      have A6 := Aside0.mk A60
      clear A60
      by_cases c7 : x5_1.length < 4398046511104
      ·rw [if_pos c7] at H
       have LMc7 := Aside0.mk c7
       clear c7
       obtain ⟨y271, hy271⟩ : ∃ y_ : List (S24), y_ = (x5_1 ++ [(⟨t267, t268, t269, t270⟩ : S24)]) := ⟨_, rfl⟩
       replace H : (decoupageref27_backs.l0 k1 l0 y271 (wrap64 (x6_1 + 1))) = some r := by first | (rw [hy271]; with_reducible exact H) | (have H2_ := (Option.bind_some _ _).symm.trans H; rw [hy271]; with_reducible exact H2_) | (have H2_ := (Option.bind_some _ _).symm.trans H; with_reducible exact H2_) | with_reducible exact H | (rw [hy271]; exact H) | exact H
       have Ny271 := Aside0.mk hy271
       clear hy271
       have H' := Aside0.mk H
       clear H
       have p265 : 0 ≤ (x6_1 : Int) := of_decide_eq_true (by first | (with_reducible assumption) | assumption)
       have q265 : x6_1 < (l0.length : Int) := of_decide_eq_true (by first | (with_reducible assumption) | assumption)
       obtain ⟨ad265, e265, hx265_0, hx265_1, hx265_2, hx265_3, hx265_4, hx265_5, hx265_6, hx265_7, hx265_8, hx265_9, hx265_10, hx265_11, hx265_12, hx265_13, hx265_14⟩ := at_T26 HR0.out x6_1 p265 q265
       cases e265
       replace hx265_0 := (HB.out.cell (World.block_lt_of_cell? w _ hx265_0)).trans hx265_0
       replace hx265_1 := (HB.out.cell (World.block_lt_of_cell? w _ hx265_1)).trans hx265_1
       replace hx265_2 := (HB.out.cell (World.block_lt_of_cell? w _ hx265_2)).trans hx265_2
       replace hx265_3 := (HB.out.cell (World.block_lt_of_cell? w _ hx265_3)).trans hx265_3
       replace hx265_4 := (HB.out.cell (World.block_lt_of_cell? w _ hx265_4)).trans hx265_4
       replace hx265_5 := (HB.out.cell (World.block_lt_of_cell? w _ hx265_5)).trans hx265_5
       replace hx265_6 := (HB.out.cell (World.block_lt_of_cell? w _ hx265_6)).trans hx265_6
       replace hx265_7 := (HB.out.cell (World.block_lt_of_cell? w _ hx265_7)).trans hx265_7
       replace hx265_8 := (HB.out.cell (World.block_lt_of_cell? w _ hx265_8)).trans hx265_8
       replace hx265_9 := (HB.out.cell (World.block_lt_of_cell? w _ hx265_9)).trans hx265_9
       replace hx265_10 := (HB.out.cell (World.block_lt_of_cell? w _ hx265_10)).trans hx265_10
       replace hx265_11 := (HB.out.cell (World.block_lt_of_cell? w _ hx265_11)).trans hx265_11
       replace hx265_12 := (HB.out.cell (World.block_lt_of_cell? w _ hx265_12)).trans hx265_12
       replace hx265_13 := (HB.out.cell (World.block_lt_of_cell? w _ hx265_13)).trans hx265_13
       replace hx265_14 := (HB.out.cell (World.block_lt_of_cell? w _ hx265_14)).trans hx265_14
       replace p265 := eq_true p265
       replace q265 := eq_true q265
       have p266 : 0 ≤ (x6_1 : Int) := of_decide_eq_true (by first | (with_reducible assumption) | assumption)
       have q266 : x6_1 < (l0.length : Int) := of_decide_eq_true (by first | (with_reducible assumption) | assumption)
       obtain ⟨ad266, e266, hx266_0, hx266_1, hx266_2, hx266_3, hx266_4, hx266_5, hx266_6, hx266_7, hx266_8, hx266_9, hx266_10, hx266_11, hx266_12, hx266_13, hx266_14⟩ := at_T26 HR0.out x6_1 p266 q266
       obtain rfl : ad265 = ad266 := (by injection e266)
       replace hx266_0 := (HB.out.cell (World.block_lt_of_cell? w _ hx266_0)).trans hx266_0
       replace hx266_1 := (HB.out.cell (World.block_lt_of_cell? w _ hx266_1)).trans hx266_1
       replace hx266_2 := (HB.out.cell (World.block_lt_of_cell? w _ hx266_2)).trans hx266_2
       replace hx266_3 := (HB.out.cell (World.block_lt_of_cell? w _ hx266_3)).trans hx266_3
       replace hx266_4 := (HB.out.cell (World.block_lt_of_cell? w _ hx266_4)).trans hx266_4
       replace hx266_5 := (HB.out.cell (World.block_lt_of_cell? w _ hx266_5)).trans hx266_5
       replace hx266_6 := (HB.out.cell (World.block_lt_of_cell? w _ hx266_6)).trans hx266_6
       replace hx266_7 := (HB.out.cell (World.block_lt_of_cell? w _ hx266_7)).trans hx266_7
       replace hx266_8 := (HB.out.cell (World.block_lt_of_cell? w _ hx266_8)).trans hx266_8
       replace hx266_9 := (HB.out.cell (World.block_lt_of_cell? w _ hx266_9)).trans hx266_9
       replace hx266_10 := (HB.out.cell (World.block_lt_of_cell? w _ hx266_10)).trans hx266_10
       replace hx266_11 := (HB.out.cell (World.block_lt_of_cell? w _ hx266_11)).trans hx266_11
       replace hx266_12 := (HB.out.cell (World.block_lt_of_cell? w _ hx266_12)).trans hx266_12
       replace hx266_13 := (HB.out.cell (World.block_lt_of_cell? w _ hx266_13)).trans hx266_13
       replace hx266_14 := (HB.out.cell (World.block_lt_of_cell? w _ hx266_14)).trans hx266_14
       replace p266 := eq_true p266
       replace q266 := eq_true q266
       go_wp2_with (first | ((with_reducible refine gate_callee (f := 51) rfl ?_); refine goesL_ (some 25) rfl rfl Try.func51 (by kernel_rfl) rfl #[.agg #[.int .i64 ((rd_T26 l0 x6_1).f0), .int .i64 ((rd_T26 l0 x6_1).f1), .int .i64 ((rd_T26 l0 x6_1).f2.f0), .int .i64 ((rd_T26 l0 x6_1).f2.f1), .int .i64 ((rd_T26 l0 x6_1).f2.f2), .int .i64 ((rd_T26 l0 x6_1).f2.f3), .int .i64 ((rd_T26 l0 x6_1).f3.f0), .int .i64 ((rd_T26 l0 x6_1).f3.f1), .int .i64 ((rd_T26 l0 x6_1).f3.f2), .int .i64 ((rd_T26 l0 x6_1).f3.f3), .int .i64 ((rd_T26 l0 x6_1).f4.f0), .int .i64 ((rd_T26 l0 x6_1).f4.f1), .int .i64 ((rd_T26 l0 x6_1).f4.f2), .int .i64 ((rd_T26 l0 x6_1).f4.f3), .int .i64 ((rd_T26 l0 x6_1).f5)]] rfl (by (try simp only [List.map_toArray, List.map_cons, List.map_nil]); first | done | rfl | (simp only [List.length_drop, List.length_take]; rfl)) ?_; (with_reducible refine (decoupageref27_Seen.calls k1 ((rd_T26 l0 x6_1).f0) ((rd_T26 l0 x6_1).f1) ((rd_T26 l0 x6_1).f2.f0) ((rd_T26 l0 x6_1).f2.f1) ((rd_T26 l0 x6_1).f2.f2) ((rd_T26 l0 x6_1).f2.f3) ((rd_T26 l0 x6_1).f3.f0) ((rd_T26 l0 x6_1).f3.f1) ((rd_T26 l0 x6_1).f3.f2) ((rd_T26 l0 x6_1).f3.f3) ((rd_T26 l0 x6_1).f4.f0) ((rd_T26 l0 x6_1).f4.f1) ((rd_T26 l0 x6_1).f4.f2) ((rd_T26 l0 x6_1).f4.f3) ((rd_T26 l0 x6_1).f5) t267 t268 t269 t270 _ A6.out).mono ?_); rintro e w8 ⟨rfl, hb⟩; refine ⟨_, rfl, ?_⟩; have n0_ := Aside0.mk (Kd.R_below (by (with_reducible repeat (first | apply Kd.R_alloc | apply Kd.R_drewN | apply Kd.R_drew)); exact HO_5.out) hb); have n1_ := Aside0.mk (below_step (by repeat (first | (with_reducible first | exact HB.out | apply below_alloc | apply pw_below_drewN | apply below_drew1) | exact HB.out)) hb); clear HO_5; clear HB; have HO_5 := n0_; have HB := n1_; clear n0_ n1_; (try clear hb); (try clear hb2); (try clear hk); (try clear hi)) | ((with_reducible refine gate_builtin (b := .append) (xs := #[.tmp 20, .tmp 26]) rfl ?_); at_builtin; refine Kd.R_append k24 (w0 := w) w.heap.size rfl (.tmp 20) (.tmp 26) 39 24 (.agg #[(.int .i64 0), (.int .i64 0), (.int .i64 0), (.int .i64 0)]) 32 rfl Try.underlying39 info24 rfl (by decide) (by omega) u5 x5_1 (⟨t267, t268, t269, t270⟩ : S24) [.int .i64 t267, .int .i64 t268, .int .i64 t269, .int .i64 t270] (fun _ => True) (fun _ => False) rfl rfl ?aP (fun _ hk => hk.elim) ?aF ?aO ?aB ?aS ?aL ?_; (case aP => exact k24_mkM _ _ _ (⟨t267, t268, t269, t270⟩ : S24)); (case aB => exact (by repeat (first | (with_reducible first | exact HB.out | apply below_alloc | apply pw_below_drewN | apply below_drew1) | exact HB.out))); (case aF => exact (fun _ _ => trivial)); (case aO => exact (by (with_reducible repeat (first | apply Kd.R_alloc | apply Kd.R_drewN | apply Kd.R_drew)); exact HO_5.out)); (case aS => exact (below_size (by repeat (first | (with_reducible first | exact HB.out | apply below_alloc | apply pw_below_drewN | apply below_drew1) | exact HB.out)))); (case aL => have := LMc7.out; omega); intro v272 w9 ho hb hg hat; rw [← Ny271.out] at ho; have n0_ := Aside0.mk (hb); have n1_ := Aside0.mk (ho); clear HB; clear HO_5; have HB := n0_; have HO273 := n1_; clear n0_ n1_; clear ho hb hg hat))
       go_roundg k1
       case measure => have := HK1.out; omega
       case rel => exact ⟨(y271), (wrap64 (x6_1 + 1)), (by first | rfl | (simp; done) | (simp [*]; done)), H', ⟨by have := HK1.out; omega⟩, ⟨by (with_reducible repeat (first | apply Kd.R_alloc | apply Kd.R_drewN | apply Kd.R_drew)); exact HO273.out⟩, ⟨by repeat (first | (with_reducible first | exact HB.out | apply below_alloc | apply pw_below_drewN | apply below_drew1) | exact HB.out)⟩⟩
      ·rw [if_neg c7] at H
       exact absurd H (by simp)
     ·rw [if_neg c5] at H
      have c5b0 : (((rd_T26 l0 x6_1).f1) == 0) = false := beq_eq_false_iff_ne.mpr c5
      have c5b1 : (((rd_T26 l0 x6_1).f1) != 0) = true := bne_iff_ne.mpr c5
      have H' := Aside0.mk H
      clear H
      have p265 : 0 ≤ (x6_1 : Int) := of_decide_eq_true (by first | (with_reducible assumption) | assumption)
      have q265 : x6_1 < (l0.length : Int) := of_decide_eq_true (by first | (with_reducible assumption) | assumption)
      obtain ⟨ad265, e265, hx265_0, hx265_1, hx265_2, hx265_3, hx265_4, hx265_5, hx265_6, hx265_7, hx265_8, hx265_9, hx265_10, hx265_11, hx265_12, hx265_13, hx265_14⟩ := at_T26 HR0.out x6_1 p265 q265
      cases e265
      replace hx265_0 := (HB.out.cell (World.block_lt_of_cell? w _ hx265_0)).trans hx265_0
      replace hx265_1 := (HB.out.cell (World.block_lt_of_cell? w _ hx265_1)).trans hx265_1
      replace hx265_2 := (HB.out.cell (World.block_lt_of_cell? w _ hx265_2)).trans hx265_2
      replace hx265_3 := (HB.out.cell (World.block_lt_of_cell? w _ hx265_3)).trans hx265_3
      replace hx265_4 := (HB.out.cell (World.block_lt_of_cell? w _ hx265_4)).trans hx265_4
      replace hx265_5 := (HB.out.cell (World.block_lt_of_cell? w _ hx265_5)).trans hx265_5
      replace hx265_6 := (HB.out.cell (World.block_lt_of_cell? w _ hx265_6)).trans hx265_6
      replace hx265_7 := (HB.out.cell (World.block_lt_of_cell? w _ hx265_7)).trans hx265_7
      replace hx265_8 := (HB.out.cell (World.block_lt_of_cell? w _ hx265_8)).trans hx265_8
      replace hx265_9 := (HB.out.cell (World.block_lt_of_cell? w _ hx265_9)).trans hx265_9
      replace hx265_10 := (HB.out.cell (World.block_lt_of_cell? w _ hx265_10)).trans hx265_10
      replace hx265_11 := (HB.out.cell (World.block_lt_of_cell? w _ hx265_11)).trans hx265_11
      replace hx265_12 := (HB.out.cell (World.block_lt_of_cell? w _ hx265_12)).trans hx265_12
      replace hx265_13 := (HB.out.cell (World.block_lt_of_cell? w _ hx265_13)).trans hx265_13
      replace hx265_14 := (HB.out.cell (World.block_lt_of_cell? w _ hx265_14)).trans hx265_14
      replace p265 := eq_true p265
      replace q265 := eq_true q265
      go_wp2
      go_roundg k1
      case measure => have := HK1.out; omega
      case rel => exact ⟨(x5_1), (wrap64 (x6_1 + 1)), (by first | rfl | (simp; done) | (simp [*]; done)), H', ⟨by have := HK1.out; omega⟩, ⟨by (with_reducible repeat (first | apply Kd.R_alloc | apply Kd.R_drewN | apply Kd.R_drew)); exact HO_5.out⟩, ⟨by repeat (first | (with_reducible first | exact HB.out | apply below_alloc | apply pw_below_drewN | apply below_drew1) | exact HB.out)⟩⟩
    ·rw [if_neg c4] at H
     exact absurd H (by simp)
   ·rw [if_neg c3] at H
    have c3b0 : decide (x6_1 < (l0.length : Int)) = false := decide_eq_false c3
    clear c3
    obtain rfl := Option.some.inj H
    go_wp2
    go_ret
    exact ⟨_, by first | rfl | (simp [errW_none, errW_some] <;> rfl) | (simp [*, errW_none, errW_some] <;> rfl), by (with_reducible repeat (first | apply Kd.R_alloc | apply Kd.R_drewN | apply Kd.R_drew)); exact HO_5.out, by repeat (first | (with_reducible first | exact HB.out | apply below_alloc | apply pw_below_drewN | apply below_drew1) | exact HB.out)⟩

/-! ### decoupageref27_Covered: function 55 -/
def decoupageref27_Covered.f (k : Nat) (l0 : List (S26)) (a1 : Int) : Option (Bool) := if 0 ≤ a1 then (if a1 < (l0.length : Int) then ((decoupageref27_Seen.f k ((rd_T26 l0 a1).f0) ((rd_T26 l0 a1).f1) ((rd_T26 l0 a1).f2.f0) ((rd_T26 l0 a1).f2.f1) ((rd_T26 l0 a1).f2.f2) ((rd_T26 l0 a1).f2.f3) ((rd_T26 l0 a1).f3.f0) ((rd_T26 l0 a1).f3.f1) ((rd_T26 l0 a1).f3.f2) ((rd_T26 l0 a1).f3.f3) ((rd_T26 l0 a1).f4.f0) ((rd_T26 l0 a1).f4.f1) ((rd_T26 l0 a1).f4.f2) ((rd_T26 l0 a1).f4.f3) ((rd_T26 l0 a1).f5)).bind fun bt275 => ((decoupageref27_backs.f k l0 (wrap64 (a1 + 1))).bind fun t279 => ((decoupageref03_Covered.f k bt275.1 bt275.2.1 bt275.2.2.1 bt275.2.2.2 t279).bind fun t282 => (some t282)))) else (none)) else (none)
theorem decoupageref27_Covered.mono : ∀ a0 a1 k, LeO (decoupageref27_Covered.f k a0 a1) (decoupageref27_Covered.f (k + 1) a0 a1) := by
 intro a0 a1 k
 unfold decoupageref27_Covered.f
 repeat' first
   | (with_reducible exact decoupageref03_Covered.mono _ _ _ _ _ _)
   | (with_reducible exact decoupageref27_Seen.mono _ _ _ _ _ _ _ _ _ _ _ _ _ _ _ _)
   | (with_reducible exact decoupageref27_backs.mono _ _ _)
   | (with_reducible exact LeO.refl _)
   | (with_reducible exact LeO.none _)
   | (with_reducible refine LeO.ite ?_ ?_)
   | (with_reducible refine LeO.bind ?_ (fun _ => ?_))
   | exact decoupageref03_Covered.mono _ _ _ _ _ _
   | exact decoupageref27_Seen.mono _ _ _ _ _ _ _ _ _ _ _ _ _ _ _ _
   | exact decoupageref27_backs.mono _ _ _
   | exact LeO.none _
   | refine LeO.ite ?_ ?_
   | refine LeO.bind ?_ (fun _ => ?_)
set_option maxHeartbeats 8000000 in
set_option maxRecDepth 100000 in
theorem decoupageref27_Covered.calls (k : Nat) (A0 : Option Addr) (c0 : Nat) (l0 : List (S26)) (a1 : Int) (r : Bool) (w : World) (hr0 : Kd.C k26 w A0 l0.length l0) (hc0 : l0.length ≤ c0) (h : decoupageref27_Covered.f k l0 a1 = some r) :
  Calls Try.prog 55 #[.slice A0 l0.length c0, .int .i64 a1] w fun e w' => e = .returned (.bool r) ∧ Below w.heap.size w w' := by
 have hu26 := Try.underlying26
 have HR0 := Aside0.mk hr0
 have HC0 := Aside0.mk hc0
 clear hr0 hc0
 have HB := Aside0.mk (Below.refl w.heap.size w)
 have H : (if 0 ≤ a1 then (if a1 < (l0.length : Int) then ((decoupageref27_Seen.f k ((rd_T26 l0 a1).f0) ((rd_T26 l0 a1).f1) ((rd_T26 l0 a1).f2.f0) ((rd_T26 l0 a1).f2.f1) ((rd_T26 l0 a1).f2.f2) ((rd_T26 l0 a1).f2.f3) ((rd_T26 l0 a1).f3.f0) ((rd_T26 l0 a1).f3.f1) ((rd_T26 l0 a1).f3.f2) ((rd_T26 l0 a1).f3.f3) ((rd_T26 l0 a1).f4.f0) ((rd_T26 l0 a1).f4.f1) ((rd_T26 l0 a1).f4.f2) ((rd_T26 l0 a1).f4.f3) ((rd_T26 l0 a1).f5)).bind fun bt275 => ((decoupageref27_backs.f k l0 (wrap64 (a1 + 1))).bind fun t279 => ((decoupageref03_Covered.f k bt275.1 bt275.2.1 bt275.2.2.1 bt275.2.2.2 t279).bind fun t282 => (some t282)))) else (none)) else (none)) = some r := h
 clear h
 by_cases c3 : 0 ≤ a1
 ·rw [if_pos c3] at H
  have c3b0 : decide (0 ≤ a1) = true := decide_eq_true c3
  clear c3
  by_cases c4 : a1 < (l0.length : Int)
  ·rw [if_pos c4] at H
   have c4b0 : decide (a1 < (l0.length : Int)) = true := decide_eq_true c4
   clear c4
   replace H := Option.bind_eq_some_iff.mp H
   obtain ⟨⟨t275, t276, t277, t278⟩, A50, H⟩ := H
   replace H : ((decoupageref27_backs.f k l0 (wrap64 (a1 + 1))).bind fun t279 => ((decoupageref03_Covered.f k t275 t276 t277 t278 t279).bind fun t282 => (some t282))) = some r := H
   have A5 := Aside0.mk A50
   clear A50
   replace H := Option.bind_eq_some_iff.mp H
   obtain ⟨t279, A60, H⟩ := H
   replace H : ((decoupageref03_Covered.f k t275 t276 t277 t278 t279).bind fun t282 => (some t282)) = some r := H
   have A6 := Aside0.mk A60
   clear A60
   replace H := Option.bind_eq_some_iff.mp H
   obtain ⟨t282, A70, H⟩ := H
   replace H : (some t282) = some r := H
   have A7 := Aside0.mk A70
   clear A70
   obtain rfl := Option.some.inj H
   have p274 : 0 ≤ (a1 : Int) := of_decide_eq_true (by first | (with_reducible assumption) | assumption)
   have q274 : a1 < (l0.length : Int) := of_decide_eq_true (by first | (with_reducible assumption) | assumption)
   obtain ⟨ad274, e274, hx274_0, hx274_1, hx274_2, hx274_3, hx274_4, hx274_5, hx274_6, hx274_7, hx274_8, hx274_9, hx274_10, hx274_11, hx274_12, hx274_13, hx274_14⟩ := at_T26 HR0.out a1 p274 q274
   cases e274
   replace p274 := eq_true p274
   replace q274 := eq_true q274
   go_enter Try.func55, Try.ntmps55
   go_wp2_with (first | ((with_reducible refine gate_callee (f := 51) rfl ?_); refine goesL_ (some 9) rfl rfl Try.func51 (by kernel_rfl) rfl #[.agg #[.int .i64 ((rd_T26 l0 a1).f0), .int .i64 ((rd_T26 l0 a1).f1), .int .i64 ((rd_T26 l0 a1).f2.f0), .int .i64 ((rd_T26 l0 a1).f2.f1), .int .i64 ((rd_T26 l0 a1).f2.f2), .int .i64 ((rd_T26 l0 a1).f2.f3), .int .i64 ((rd_T26 l0 a1).f3.f0), .int .i64 ((rd_T26 l0 a1).f3.f1), .int .i64 ((rd_T26 l0 a1).f3.f2), .int .i64 ((rd_T26 l0 a1).f3.f3), .int .i64 ((rd_T26 l0 a1).f4.f0), .int .i64 ((rd_T26 l0 a1).f4.f1), .int .i64 ((rd_T26 l0 a1).f4.f2), .int .i64 ((rd_T26 l0 a1).f4.f3), .int .i64 ((rd_T26 l0 a1).f5)]] rfl (by (try simp only [List.map_toArray, List.map_cons, List.map_nil]); first | done | rfl | (simp only [List.length_drop, List.length_take]; rfl)) ?_; (with_reducible refine (decoupageref27_Seen.calls k ((rd_T26 l0 a1).f0) ((rd_T26 l0 a1).f1) ((rd_T26 l0 a1).f2.f0) ((rd_T26 l0 a1).f2.f1) ((rd_T26 l0 a1).f2.f2) ((rd_T26 l0 a1).f2.f3) ((rd_T26 l0 a1).f3.f0) ((rd_T26 l0 a1).f3.f1) ((rd_T26 l0 a1).f3.f2) ((rd_T26 l0 a1).f3.f3) ((rd_T26 l0 a1).f4.f0) ((rd_T26 l0 a1).f4.f1) ((rd_T26 l0 a1).f4.f2) ((rd_T26 l0 a1).f4.f3) ((rd_T26 l0 a1).f5) t275 t276 t277 t278 _ A5.out).mono ?_); rintro e w8 ⟨rfl, hb⟩; refine ⟨_, rfl, ?_⟩; have n0_ := Aside0.mk (below_step (by repeat (first | (with_reducible first | exact HB.out | apply below_alloc | apply pw_below_drewN | apply below_drew1) | exact HB.out)) hb); clear HB; have HB := n0_; clear n0_; (try clear hb); (try clear hb2); (try clear hk); (try clear hi)) | ((with_reducible refine gate_callee (f := 52) rfl ?_); refine goesL_ (some 13) rfl rfl Try.func52 (by kernel_rfl) rfl #[.slice (some ad274) l0.length c0, .int .i64 (wrap64 (a1 + 1))] rfl (by (try simp only [List.map_toArray, List.map_cons, List.map_nil]); first | done | rfl | (simp only [List.length_drop, List.length_take]; rfl)) ?_; (with_reducible refine (decoupageref27_backs.calls k _ _ l0 (wrap64 (a1 + 1)) t279 _ ?side1 ?side2 A6.out).mono ?_); (case side1 => repeat (first | exact (Kd.C_below HR0.out HB.out) | (with_reducible refine Kd.C_alloc ?_ _) | (with_reducible refine Kd.C_drewN ?_ _) | (with_reducible refine Kd.C_drew ?_))); (case side2 => exact HC0.out); rintro e w9 ⟨v280, rfl, ho0, hb⟩; refine ⟨_, rfl, ?_⟩; have n0_ := Aside0.mk (Kd.R_lower ho0 (below_size (by repeat (first | (with_reducible first | exact HB.out | apply below_alloc | apply pw_below_drewN | apply below_drew1) | exact HB.out)))); have n1_ := Aside0.mk (below_step (by repeat (first | (with_reducible first | exact HB.out | apply below_alloc | apply pw_below_drewN | apply below_drew1) | exact HB.out)) hb); clear HB; have HO281 := n0_; have HB := n1_; clear n0_ n1_; (try clear hb); (try clear hb2); (try clear hk); (try clear hi); (try clear ho0); obtain ⟨Ao10, co10, eo10⟩ := Kd.R_slice HO281.out; subst eo10) | ((with_reducible refine gate_callee (f := 32) rfl ?_); refine goesL_ (some 14) rfl rfl Try.func32 (by kernel_rfl) rfl #[.agg #[.int .i64 t275, .int .i64 t276, .int .i64 t277, .int .i64 t278], .slice Ao10 t279.length co10] rfl (by (try simp only [List.map_toArray, List.map_cons, List.map_nil]); first | done | rfl | (simp only [List.length_drop, List.length_take]; rfl)) ?_; (with_reducible refine (decoupageref03_Covered.calls k t275 t276 t277 t278 _ _ t279 t282 _ ?side1 ?side2 A7.out).mono ?_); (case side1 => repeat (first | exact (Kd.R_reads' HO281.out).2.2 | (with_reducible refine Kd.C_alloc ?_ _) | (with_reducible refine Kd.C_drewN ?_ _) | (with_reducible refine Kd.C_drew ?_))); (case side2 => exact (Kd.R_reads' HO281.out).2.1); rintro e w11 ⟨rfl, hb⟩; refine ⟨_, rfl, ?_⟩; have n0_ := Aside0.mk (Kd.R_below (by (with_reducible repeat (first | apply Kd.R_alloc | apply Kd.R_drewN | apply Kd.R_drew)); exact HO281.out) hb); have n1_ := Aside0.mk (below_step (by repeat (first | (with_reducible first | exact HB.out | apply below_alloc | apply pw_below_drewN | apply below_drew1) | exact HB.out)) hb); clear HO281; clear HB; have HO281 := n0_; have HB := n1_; clear n0_ n1_; (try clear hb); (try clear hb2); (try clear hk); (try clear hi)))
   go_ret
   exact ⟨by first | rfl | (simp [errW_none, errW_some] <;> rfl) | (simp [*, errW_none, errW_some] <;> rfl), by repeat (first | (with_reducible first | exact HB.out | apply below_alloc | apply pw_below_drewN | apply below_drew1) | exact HB.out)⟩
  ·rw [if_neg c4] at H
   exact absurd H (by simp)
 ·rw [if_neg c3] at H
  exact absurd H (by simp)

/-! ### decoupageref27_Sift: function 43 -/
def decoupageref27_Sift.l0 : Nat → List (S26) → List (S26) → Int → Int → Option ((List (S26)))
 | 0, _, _, _, _ => none
 | k + 1, x0, x3, x6, x7 => if x7 < x6 then ((decoupageref27_Covered.f k x0 x7).bind fun t283 => (if t283 = true then (decoupageref27_Sift.l0 k x0 x3 x6 (wrap64 (x7 + 1))) else (if 0 ≤ x7 then (if x7 < (x0.length : Int) then (if x3.length < 1172812402961 then (decoupageref27_Sift.l0 k x0 (x3 ++ [(⟨(rd_T26 x0 x7).f0, (rd_T26 x0 x7).f1, (⟨(rd_T26 x0 x7).f2.f0, (rd_T26 x0 x7).f2.f1, (rd_T26 x0 x7).f2.f2, (rd_T26 x0 x7).f2.f3⟩ : S24), (⟨(rd_T26 x0 x7).f3.f0, (rd_T26 x0 x7).f3.f1, (rd_T26 x0 x7).f3.f2, (rd_T26 x0 x7).f3.f3⟩ : S24), (⟨(rd_T26 x0 x7).f4.f0, (rd_T26 x0 x7).f4.f1, (rd_T26 x0 x7).f4.f2, (rd_T26 x0 x7).f4.f3⟩ : S24), (rd_T26 x0 x7).f5⟩ : S26)]) x6 (wrap64 (x7 + 1))) else (none)) else (none)) else (none)))) else (some x3)
def decoupageref27_Sift.f (k : Nat) (l0 : List (S26)) : Option ((List (S26))) := decoupageref27_Sift.l0 k l0 ([] : List (S26)) (l0.length : Int) 0
theorem decoupageref27_Sift.mono_l : ∀ k, (∀ y0 y1 y2 y3, LeO (decoupageref27_Sift.l0 k y0 y1 y2 y3) (decoupageref27_Sift.l0 (k + 1) y0 y1 y2 y3))
 | 0 => fun _ _ _ _ r h => by simp [decoupageref27_Sift.l0] at h
 | k + 1 => by
  have ih0 := decoupageref27_Sift.mono_l k
  ·intro y0 y1 y2 y3
   unfold decoupageref27_Sift.l0
   repeat' first
   | (with_reducible exact ih0 _ _ _ _)
   | (with_reducible exact decoupageref27_Covered.mono _ _ _)
   | (with_reducible exact LeO.refl _)
   | (with_reducible exact LeO.none _)
   | (with_reducible refine LeO.ite ?_ ?_)
   | (with_reducible refine LeO.bind ?_ (fun _ => ?_))
   | exact ih0 _ _ _ _
   | exact decoupageref27_Covered.mono _ _ _
   | exact LeO.none _
   | refine LeO.ite ?_ ?_
   | refine LeO.bind ?_ (fun _ => ?_)
theorem decoupageref27_Sift.mono : ∀ a0 k, LeO (decoupageref27_Sift.f k a0) (decoupageref27_Sift.f (k + 1) a0) := by
 intro a0 k
 have ih0 := decoupageref27_Sift.mono_l k
 unfold decoupageref27_Sift.f
 repeat' first
   | (with_reducible exact ih0 _ _ _ _)
   | (with_reducible exact decoupageref27_Covered.mono _ _ _)
   | (with_reducible exact LeO.refl _)
   | (with_reducible exact LeO.none _)
   | (with_reducible refine LeO.ite ?_ ?_)
   | (with_reducible refine LeO.bind ?_ (fun _ => ?_))
   | exact ih0 _ _ _ _
   | exact decoupageref27_Covered.mono _ _ _
   | exact LeO.none _
   | refine LeO.ite ?_ ?_
   | refine LeO.bind ?_ (fun _ => ?_)
set_option maxHeartbeats 8000000 in
set_option maxRecDepth 100000 in
theorem decoupageref27_Sift.calls (k : Nat) (A0 : Option Addr) (c0 : Nat) (l0 : List (S26)) (r : List (S26)) (w : World) (hr0 : Kd.C k26 w A0 l0.length l0) (hc0 : l0.length ≤ c0) (h : decoupageref27_Sift.f k l0 = some r) :
  Calls Try.prog 43 #[.slice A0 l0.length c0] w fun e w' => ∃ v0_ : Value, e = .returned (v0_) ∧ Kd.R k26 26 w' w.heap.size (fun _ => True) v0_ r ∧ Below w.heap.size w w' := by
 have hu26 := Try.underlying26
 have HR0 := Aside0.mk hr0
 have HC0 := Aside0.mk hc0
 clear hr0 hc0
 have HB := Aside0.mk (Below.refl w.heap.size w)
 have H : (decoupageref27_Sift.l0 k l0 ([] : List (S26)) (l0.length : Int) 0) = some r := h
 clear h
 have H' := Aside0.mk H
 clear H
 go_enter Try.func43, Try.ntmps43
 go_wp2
 go_loopg [3, 7] k (fun kq v3 v7 w' => ∃ (x3_1 : List (S26)) (x7_1 : Int), v7 = .int .i64 x7_1 ∧ Aside0 (decoupageref27_Sift.l0 kq l0 x3_1 (l0.length : Int) x7_1 = some r) ∧ Aside0 (kq ≤ k) ∧ Aside0 (Kd.R k26 26 w' w.heap.size (fun _ => True) v3 x3_1) ∧ Aside0 (Below w.heap.size w w'))
 case atStart => exact ⟨(([] : List (S26))), (0), (by first | rfl | (simp; done) | (simp [*]; done)), H', ⟨Nat.le_refl _⟩, ⟨by first | exact Kd.R_nil _ _ _ _ _ | exact Kd.N_nil _ _ _ _ _ | exact Kd.V_nil _ _ _ _ _ | exact Kd.Q_nil _ _ _ _ _ | exact Kd.S_nil _ _ _ _ _⟩, ⟨by repeat (first | (with_reducible first | exact HB.out | apply below_alloc | apply pw_below_drewN | apply below_drew1) | exact HB.out)⟩⟩
 case round =>
  clear H'
  obtain ⟨x3_1, x7_1, rfl, HA, HK1, HO_3, HB⟩ := hrel
  cases gk with
  | zero => exact absurd HA.out (by simp [decoupageref27_Sift.l0])
  | succ k1 =>
   have H := HA.out
   clear HA
   simp only [decoupageref27_Sift.l0] at H
   by_cases c2 : x7_1 < (l0.length : Int)
   ·rw [if_pos c2] at H
    have c2b0 : decide (x7_1 < (l0.length : Int)) = true := decide_eq_true c2
    clear c2
    replace H := Option.bind_eq_some_iff.mp H
    obtain ⟨t283, A30, H⟩ := H
    replace H : (if t283 = true then (decoupageref27_Sift.l0 k1 l0 x3_1 (l0.length : Int) (wrap64 (x7_1 + 1))) else (if 0 ≤ x7_1 then (if x7_1 < (l0.length : Int) then (if x3_1.length < 1172812402961 then (decoupageref27_Sift.l0 k1 l0 (x3_1 ++ [(⟨(rd_T26 l0 x7_1).f0, (rd_T26 l0 x7_1).f1, (⟨(rd_T26 l0 x7_1).f2.f0, (rd_T26 l0 x7_1).f2.f1, (rd_T26 l0 x7_1).f2.f2, (rd_T26 l0 x7_1).f2.f3⟩ : S24), (⟨(rd_T26 l0 x7_1).f3.f0, (rd_T26 l0 x7_1).f3.f1, (rd_T26 l0 x7_1).f3.f2, (rd_T26 l0 x7_1).f3.f3⟩ : S24), (⟨(rd_T26 l0 x7_1).f4.f0, (rd_T26 l0 x7_1).f4.f1, (rd_T26 l0 x7_1).f4.f2, (rd_T26 l0 x7_1).f4.f3⟩ : S24), (rd_T26 l0 x7_1).f5⟩ : S26)]) (l0.length : Int) (wrap64 (x7_1 + 1))) else (none)) else (none)) else (none))) = some r := H
    have A3 := Aside0.mk A30
    clear A30
    by_cases c4 : t283 = true
    ·subst c4
     have H1 : (decoupageref27_Sift.l0 k1 l0 x3_1 (l0.length : Int) (wrap64 (x7_1 + 1))) = some r := by rw [if_pos rfl] at H; exact H
     clear H
     have H := H1
     clear H1
     have H' := Aside0.mk H
     clear H
     go_wp2_with (first | ((with_reducible refine gate_callee (f := 55) rfl ?_); refine goesL_ (some 12) rfl rfl Try.func55 (by kernel_rfl) rfl #[.slice A0 l0.length c0, .int .i64 x7_1] rfl (by (try simp only [List.map_toArray, List.map_cons, List.map_nil]); first | done | rfl | (simp only [List.length_drop, List.length_take]; rfl)) ?_; (with_reducible refine (decoupageref27_Covered.calls k1 _ _ l0 x7_1 true _ ?side1 ?side2 A3.out).mono ?_); (case side1 => repeat (first | exact (Kd.C_below HR0.out HB.out) | (with_reducible refine Kd.C_alloc ?_ _) | (with_reducible refine Kd.C_drewN ?_ _) | (with_reducible refine Kd.C_drew ?_))); (case side2 => exact HC0.out); rintro e w5 ⟨rfl, hb⟩; refine ⟨_, rfl, ?_⟩; have n0_ := Aside0.mk (Kd.R_below (by (with_reducible repeat (first | apply Kd.R_alloc | apply Kd.R_drewN | apply Kd.R_drew)); exact HO_3.out) hb); have n1_ := Aside0.mk (below_step (by repeat (first | (with_reducible first | exact HB.out | apply below_alloc | apply pw_below_drewN | apply below_drew1) | exact HB.out)) hb); clear HO_3; clear HB; have HO_3 := n0_; have HB := n1_; clear n0_ n1_; (try clear hb); (try clear hb2); (try clear hk); (try clear hi)))
     go_roundg k1
     case measure => have := HK1.out; omega
     case rel => exact ⟨(x3_1), (wrap64 (x7_1 + 1)), (by first | rfl | (simp; done) | (simp [*]; done)), H', ⟨by have := HK1.out; omega⟩, ⟨by (with_reducible repeat (first | apply Kd.R_alloc | apply Kd.R_drewN | apply Kd.R_drew)); exact HO_3.out⟩, ⟨by repeat (first | (with_reducible first | exact HB.out | apply below_alloc | apply pw_below_drewN | apply below_drew1) | exact HB.out)⟩⟩
    ·replace c4 := Bool.eq_false_iff.mpr c4
     subst c4
     have H1 : (if 0 ≤ x7_1 then (if x7_1 < (l0.length : Int) then (if x3_1.length < 1172812402961 then (decoupageref27_Sift.l0 k1 l0 (x3_1 ++ [(⟨(rd_T26 l0 x7_1).f0, (rd_T26 l0 x7_1).f1, (⟨(rd_T26 l0 x7_1).f2.f0, (rd_T26 l0 x7_1).f2.f1, (rd_T26 l0 x7_1).f2.f2, (rd_T26 l0 x7_1).f2.f3⟩ : S24), (⟨(rd_T26 l0 x7_1).f3.f0, (rd_T26 l0 x7_1).f3.f1, (rd_T26 l0 x7_1).f3.f2, (rd_T26 l0 x7_1).f3.f3⟩ : S24), (⟨(rd_T26 l0 x7_1).f4.f0, (rd_T26 l0 x7_1).f4.f1, (rd_T26 l0 x7_1).f4.f2, (rd_T26 l0 x7_1).f4.f3⟩ : S24), (rd_T26 l0 x7_1).f5⟩ : S26)]) (l0.length : Int) (wrap64 (x7_1 + 1))) else (none)) else (none)) else (none)) = some r := by rw [if_neg (show ¬ (false = true) by decide)] at H; exact H
     clear H
     have H := H1
     clear H1
     by_cases c6 : 0 ≤ x7_1
     ·rw [if_pos c6] at H
      have c6b0 : decide (0 ≤ x7_1) = true := decide_eq_true c6
      clear c6
      by_cases c7 : x7_1 < (l0.length : Int)
      ·rw [if_pos c7] at H
       have c7b0 : decide (x7_1 < (l0.length : Int)) = true := decide_eq_true c7
       clear c7
       by_cases c8 : x3_1.length < 1172812402961
       ·rw [if_pos c8] at H
        have LMc8 := Aside0.mk c8
        clear c8
        obtain ⟨y285, hy285⟩ : ∃ y_ : List (S26), y_ = (x3_1 ++ [(⟨(rd_T26 l0 x7_1).f0, (rd_T26 l0 x7_1).f1, (⟨(rd_T26 l0 x7_1).f2.f0, (rd_T26 l0 x7_1).f2.f1, (rd_T26 l0 x7_1).f2.f2, (rd_T26 l0 x7_1).f2.f3⟩ : S24), (⟨(rd_T26 l0 x7_1).f3.f0, (rd_T26 l0 x7_1).f3.f1, (rd_T26 l0 x7_1).f3.f2, (rd_T26 l0 x7_1).f3.f3⟩ : S24), (⟨(rd_T26 l0 x7_1).f4.f0, (rd_T26 l0 x7_1).f4.f1, (rd_T26 l0 x7_1).f4.f2, (rd_T26 l0 x7_1).f4.f3⟩ : S24), (rd_T26 l0 x7_1).f5⟩ : S26)]) := ⟨_, rfl⟩
        replace H : (decoupageref27_Sift.l0 k1 l0 y285 (l0.length : Int) (wrap64 (x7_1 + 1))) = some r := by first | (rw [hy285]; with_reducible exact H) | (have H2_ := (Option.bind_some _ _).symm.trans H; rw [hy285]; with_reducible exact H2_) | (have H2_ := (Option.bind_some _ _).symm.trans H; with_reducible exact H2_) | with_reducible exact H | (rw [hy285]; exact H) | exact H
        have Ny285 := Aside0.mk hy285
        clear hy285
        have H' := Aside0.mk H
        clear H
        go_wp2_with (first | ((with_reducible refine gate_callee (f := 55) rfl ?_); refine goesL_ (some 12) rfl rfl Try.func55 (by kernel_rfl) rfl #[.slice A0 l0.length c0, .int .i64 x7_1] rfl (by (try simp only [List.map_toArray, List.map_cons, List.map_nil]); first | done | rfl | (simp only [List.length_drop, List.length_take]; rfl)) ?_; (with_reducible refine (decoupageref27_Covered.calls k1 _ _ l0 x7_1 false _ ?side1 ?side2 A3.out).mono ?_); (case side1 => repeat (first | exact (Kd.C_below HR0.out HB.out) | (with_reducible refine Kd.C_alloc ?_ _) | (with_reducible refine Kd.C_drewN ?_ _) | (with_reducible refine Kd.C_drew ?_))); (case side2 => exact HC0.out); rintro e w9 ⟨rfl, hb⟩; refine ⟨_, rfl, ?_⟩; have n0_ := Aside0.mk (Kd.R_below (by (with_reducible repeat (first | apply Kd.R_alloc | apply Kd.R_drewN | apply Kd.R_drew)); exact HO_3.out) hb); have n1_ := Aside0.mk (below_step (by repeat (first | (with_reducible first | exact HB.out | apply below_alloc | apply pw_below_drewN | apply below_drew1) | exact HB.out)) hb); clear HO_3; clear HB; have HO_3 := n0_; have HB := n1_; clear n0_ n1_; (try clear hb); (try clear hb2); (try clear hk); (try clear hi); have p284 : 0 ≤ (x7_1 : Int) := of_decide_eq_true (by first | (with_reducible assumption) | assumption); have q284 : x7_1 < (l0.length : Int) := of_decide_eq_true (by first | (with_reducible assumption) | assumption); obtain ⟨ad284, e284, hx284_0, hx284_1, hx284_2, hx284_3, hx284_4, hx284_5, hx284_6, hx284_7, hx284_8, hx284_9, hx284_10, hx284_11, hx284_12, hx284_13, hx284_14⟩ := at_T26 HR0.out x7_1 p284 q284; cases e284; replace hx284_0 := (HB.out.cell (World.block_lt_of_cell? w _ hx284_0)).trans hx284_0; replace hx284_1 := (HB.out.cell (World.block_lt_of_cell? w _ hx284_1)).trans hx284_1; replace hx284_2 := (HB.out.cell (World.block_lt_of_cell? w _ hx284_2)).trans hx284_2; replace hx284_3 := (HB.out.cell (World.block_lt_of_cell? w _ hx284_3)).trans hx284_3; replace hx284_4 := (HB.out.cell (World.block_lt_of_cell? w _ hx284_4)).trans hx284_4; replace hx284_5 := (HB.out.cell (World.block_lt_of_cell? w _ hx284_5)).trans hx284_5; replace hx284_6 := (HB.out.cell (World.block_lt_of_cell? w _ hx284_6)).trans hx284_6; replace hx284_7 := (HB.out.cell (World.block_lt_of_cell? w _ hx284_7)).trans hx284_7; replace hx284_8 := (HB.out.cell (World.block_lt_of_cell? w _ hx284_8)).trans hx284_8; replace hx284_9 := (HB.out.cell (World.block_lt_of_cell? w _ hx284_9)).trans hx284_9; replace hx284_10 := (HB.out.cell (World.block_lt_of_cell? w _ hx284_10)).trans hx284_10; replace hx284_11 := (HB.out.cell (World.block_lt_of_cell? w _ hx284_11)).trans hx284_11; replace hx284_12 := (HB.out.cell (World.block_lt_of_cell? w _ hx284_12)).trans hx284_12; replace hx284_13 := (HB.out.cell (World.block_lt_of_cell? w _ hx284_13)).trans hx284_13; replace hx284_14 := (HB.out.cell (World.block_lt_of_cell? w _ hx284_14)).trans hx284_14; replace p284 := eq_true p284; replace q284 := eq_true q284) | ((with_reducible refine gate_builtin (b := .append) (xs := #[.tmp 14, .tmp 19]) rfl ?_); at_builtin; refine Kd.R_append k26 (w0 := w) w.heap.size rfl (.tmp 14) (.tmp 19) 22 26 (.agg #[(.int .i64 0), (.int .i64 0), (.int .i64 0), (.int .i64 0), (.int .i64 0), (.int .i64 0), (.int .i64 0), (.int .i64 0), (.int .i64 0), (.int .i64 0), (.int .i64 0), (.int .i64 0), (.int .i64 0), (.int .i64 0), (.int .i64 0)]) 120 rfl Try.underlying22 info26 rfl (by decide) (by omega) u3 x3_1 (⟨(rd_T26 l0 x7_1).f0, (rd_T26 l0 x7_1).f1, (⟨(rd_T26 l0 x7_1).f2.f0, (rd_T26 l0 x7_1).f2.f1, (rd_T26 l0 x7_1).f2.f2, (rd_T26 l0 x7_1).f2.f3⟩ : S24), (⟨(rd_T26 l0 x7_1).f3.f0, (rd_T26 l0 x7_1).f3.f1, (rd_T26 l0 x7_1).f3.f2, (rd_T26 l0 x7_1).f3.f3⟩ : S24), (⟨(rd_T26 l0 x7_1).f4.f0, (rd_T26 l0 x7_1).f4.f1, (rd_T26 l0 x7_1).f4.f2, (rd_T26 l0 x7_1).f4.f3⟩ : S24), (rd_T26 l0 x7_1).f5⟩ : S26) [.int .i64 ((rd_T26 l0 x7_1).f0), .int .i64 ((rd_T26 l0 x7_1).f1), .int .i64 ((rd_T26 l0 x7_1).f2.f0), .int .i64 ((rd_T26 l0 x7_1).f2.f1), .int .i64 ((rd_T26 l0 x7_1).f2.f2), .int .i64 ((rd_T26 l0 x7_1).f2.f3), .int .i64 ((rd_T26 l0 x7_1).f3.f0), .int .i64 ((rd_T26 l0 x7_1).f3.f1), .int .i64 ((rd_T26 l0 x7_1).f3.f2), .int .i64 ((rd_T26 l0 x7_1).f3.f3), .int .i64 ((rd_T26 l0 x7_1).f4.f0), .int .i64 ((rd_T26 l0 x7_1).f4.f1), .int .i64 ((rd_T26 l0 x7_1).f4.f2), .int .i64 ((rd_T26 l0 x7_1).f4.f3), .int .i64 ((rd_T26 l0 x7_1).f5)] (fun _ => True) (fun _ => False) rfl rfl ?aP (fun _ hk => hk.elim) ?aF ?aO ?aB ?aS ?aL ?_; (case aP => exact k26_mkM _ _ _ (⟨(rd_T26 l0 x7_1).f0, (rd_T26 l0 x7_1).f1, (⟨(rd_T26 l0 x7_1).f2.f0, (rd_T26 l0 x7_1).f2.f1, (rd_T26 l0 x7_1).f2.f2, (rd_T26 l0 x7_1).f2.f3⟩ : S24), (⟨(rd_T26 l0 x7_1).f3.f0, (rd_T26 l0 x7_1).f3.f1, (rd_T26 l0 x7_1).f3.f2, (rd_T26 l0 x7_1).f3.f3⟩ : S24), (⟨(rd_T26 l0 x7_1).f4.f0, (rd_T26 l0 x7_1).f4.f1, (rd_T26 l0 x7_1).f4.f2, (rd_T26 l0 x7_1).f4.f3⟩ : S24), (rd_T26 l0 x7_1).f5⟩ : S26)); (case aB => exact (by repeat (first | (with_reducible first | exact HB.out | apply below_alloc | apply pw_below_drewN | apply below_drew1) | exact HB.out))); (case aF => exact (fun _ _ => trivial)); (case aO => exact (by (with_reducible repeat (first | apply Kd.R_alloc | apply Kd.R_drewN | apply Kd.R_drew)); exact HO_3.out)); (case aS => exact (below_size (by repeat (first | (with_reducible first | exact HB.out | apply below_alloc | apply pw_below_drewN | apply below_drew1) | exact HB.out)))); (case aL => have := LMc8.out; omega); intro v286 w10 ho hb hg hat; rw [← Ny285.out] at ho; have n0_ := Aside0.mk (hb); have n1_ := Aside0.mk (ho); clear HB; clear HO_3; have HB := n0_; have HO287 := n1_; clear n0_ n1_; clear ho hb hg hat))
        go_roundg k1
        case measure => have := HK1.out; omega
        case rel => exact ⟨(y285), (wrap64 (x7_1 + 1)), (by first | rfl | (simp; done) | (simp [*]; done)), H', ⟨by have := HK1.out; omega⟩, ⟨by (with_reducible repeat (first | apply Kd.R_alloc | apply Kd.R_drewN | apply Kd.R_drew)); exact HO287.out⟩, ⟨by repeat (first | (with_reducible first | exact HB.out | apply below_alloc | apply pw_below_drewN | apply below_drew1) | exact HB.out)⟩⟩
       ·rw [if_neg c8] at H
        exact absurd H (by simp)
      ·rw [if_neg c7] at H
       exact absurd H (by simp)
     ·rw [if_neg c6] at H
      exact absurd H (by simp)
   ·rw [if_neg c2] at H
    have c2b0 : decide (x7_1 < (l0.length : Int)) = false := decide_eq_false c2
    clear c2
    obtain rfl := Option.some.inj H
    go_wp2
    go_ret
    exact ⟨_, by first | rfl | (simp [errW_none, errW_some] <;> rfl) | (simp [*, errW_none, errW_some] <;> rfl), by (with_reducible repeat (first | apply Kd.R_alloc | apply Kd.R_drewN | apply Kd.R_drew)); exact HO_3.out, by repeat (first | (with_reducible first | exact HB.out | apply below_alloc | apply pw_below_drewN | apply below_drew1) | exact HB.out)⟩

/-! ### decoupagelaw27_CullSifts: function 11 -/
def decoupagelaw27_CullSifts.j0 : Nat → List (S26) → Bool → Option (Bool)
 | 0, _, _ => none
 | k + 1, x0, x9 => if x9 = true then ((decoupagelaw27_awake.f k).bind fun t289 => (some t289)) else ((cull_Sift.f k x0).bind fun t290 => ((decoupageref27_Sift.f k x0).bind fun t293 => ((decoupageref25_Same.f k t290 t293).bind fun t296 => (some t296))))
def decoupagelaw27_CullSifts.f (k : Nat) (l0 : List (S26)) : Option (Bool) := (decoupagelaw27_awake.f k).bind fun t288 => (if t288 = true then (decoupagelaw27_CullSifts.j0 k l0 (decide ((l0.length : Int) > 8))) else (decoupagelaw27_CullSifts.j0 k l0 true))
theorem decoupagelaw27_CullSifts.mono_l : ∀ k, (∀ y0 y1, LeO (decoupagelaw27_CullSifts.j0 k y0 y1) (decoupagelaw27_CullSifts.j0 (k + 1) y0 y1))
 | 0 => fun _ _ r h => by simp [decoupagelaw27_CullSifts.j0] at h
 | k + 1 => by
  have ih0 := decoupagelaw27_CullSifts.mono_l k
  ·intro y0 y1
   unfold decoupagelaw27_CullSifts.j0
   repeat' first
   | (with_reducible exact ih0 _ _)
   | (with_reducible exact cull_Sift.mono _ _)
   | (with_reducible exact decoupagelaw27_awake.mono _)
   | (with_reducible exact decoupageref25_Same.mono _ _ _)
   | (with_reducible exact decoupageref27_Sift.mono _ _)
   | (with_reducible exact LeO.refl _)
   | (with_reducible exact LeO.none _)
   | (with_reducible refine LeO.ite ?_ ?_)
   | (with_reducible refine LeO.bind ?_ (fun _ => ?_))
   | exact ih0 _ _
   | exact cull_Sift.mono _ _
   | exact decoupagelaw27_awake.mono _
   | exact decoupageref25_Same.mono _ _ _
   | exact decoupageref27_Sift.mono _ _
   | exact LeO.none _
   | refine LeO.ite ?_ ?_
   | refine LeO.bind ?_ (fun _ => ?_)
theorem decoupagelaw27_CullSifts.mono : ∀ a0 k, LeO (decoupagelaw27_CullSifts.f k a0) (decoupagelaw27_CullSifts.f (k + 1) a0) := by
 intro a0 k
 have ih0 := decoupagelaw27_CullSifts.mono_l k
 unfold decoupagelaw27_CullSifts.f
 repeat' first
   | (with_reducible exact ih0 _ _)
   | (with_reducible exact cull_Sift.mono _ _)
   | (with_reducible exact decoupagelaw27_awake.mono _)
   | (with_reducible exact decoupageref25_Same.mono _ _ _)
   | (with_reducible exact decoupageref27_Sift.mono _ _)
   | (with_reducible exact LeO.refl _)
   | (with_reducible exact LeO.none _)
   | (with_reducible refine LeO.ite ?_ ?_)
   | (with_reducible refine LeO.bind ?_ (fun _ => ?_))
   | exact ih0 _ _
   | exact cull_Sift.mono _ _
   | exact decoupagelaw27_awake.mono _
   | exact decoupageref25_Same.mono _ _ _
   | exact decoupageref27_Sift.mono _ _
   | exact LeO.none _
   | refine LeO.ite ?_ ?_
   | refine LeO.bind ?_ (fun _ => ?_)
set_option maxHeartbeats 8000000 in
set_option maxRecDepth 100000 in
theorem decoupagelaw27_CullSifts.calls (k : Nat) (A0 : Option Addr) (c0 : Nat) (l0 : List (S26)) (r : Bool) (w : World) (hr0 : Kd.C k26 w A0 l0.length l0) (hc0 : l0.length ≤ c0) (h : decoupagelaw27_CullSifts.f k l0 = some r) :
  Calls Try.prog 11 #[.slice A0 l0.length c0] w fun e w' => e = .returned (.bool r) ∧ Below w.heap.size w w' := by
 have HR0 := Aside0.mk hr0
 have HC0 := Aside0.mk hc0
 clear hr0 hc0
 have HB := Aside0.mk (Below.refl w.heap.size w)
 have H : ((decoupagelaw27_awake.f k).bind fun t288 => (if t288 = true then (decoupagelaw27_CullSifts.j0 k l0 (decide ((l0.length : Int) > 8))) else (decoupagelaw27_CullSifts.j0 k l0 true))) = some r := h
 clear h
 have HC2 := Aside0.mk H
 clear H
 go_enter Try.func11, Try.ntmps11
 go_upto_region 1 with (fail)
 go_cut [9] (fun v9 wc => ∃ (kq : Nat) (x9_1 : Bool), v9 = .bool x9_1 ∧ Aside0 (decoupagelaw27_CullSifts.j0 kq l0 x9_1 = some r) ∧ Aside0 (kq ≤ k) ∧ Aside0 (Below w.heap.size w wc))
 case first =>
  have H := HC2.out
  clear HC2
  replace H := Option.bind_eq_some_iff.mp H
  obtain ⟨t288, A30, H⟩ := H
  replace H : (if t288 = true then (decoupagelaw27_CullSifts.j0 k l0 (decide ((l0.length : Int) > 8))) else (decoupagelaw27_CullSifts.j0 k l0 true)) = some r := H
  have A3 := Aside0.mk A30
  clear A30
  by_cases c4 : t288 = true
  ·subst c4
   have H1 : (decoupagelaw27_CullSifts.j0 k l0 (decide ((l0.length : Int) > 8))) = some r := by rw [if_pos rfl] at H; exact H
   clear H
   have H := H1
   clear H1
   have H' := Aside0.mk H
   clear H
   go_wp2_with (first | ((with_reducible refine gate_callee (f := 36) rfl ?_); refine goesL_ (some 3) rfl rfl Try.func36 (by kernel_rfl) rfl #[] rfl (by (try simp only [List.map_toArray, List.map_cons, List.map_nil]); first | done | rfl | (simp only [List.length_drop, List.length_take]; rfl)) ?_; (with_reducible refine (decoupagelaw27_awake.calls k  true _ A3.out).mono ?_); rintro e w5 ⟨rfl, hb⟩; refine ⟨_, rfl, ?_⟩; have n0_ := Aside0.mk (below_step (by repeat (first | (with_reducible first | exact HB.out | apply below_alloc | apply pw_below_drewN | apply below_drew1) | exact HB.out)) hb); clear HB; have HB := n0_; clear n0_; (try clear hb); (try clear hb2); (try clear hk); (try clear hi)))
   go_meet
   case rel => exact ⟨_, (decide ((l0.length : Int) > 8)), (by first | rfl | (simp; done) | (simp [*]; done)), H', ⟨by first | omega | exact Nat.le_refl _⟩, ⟨by repeat (first | (with_reducible first | exact HB.out | apply below_alloc | apply pw_below_drewN | apply below_drew1) | exact HB.out)⟩⟩
  ·replace c4 := Bool.eq_false_iff.mpr c4
   subst c4
   have H1 : (decoupagelaw27_CullSifts.j0 k l0 true) = some r := by rw [if_neg (show ¬ (false = true) by decide)] at H; exact H
   clear H
   have H := H1
   clear H1
   have H' := Aside0.mk H
   clear H
   go_wp2_with (first | ((with_reducible refine gate_callee (f := 36) rfl ?_); refine goesL_ (some 3) rfl rfl Try.func36 (by kernel_rfl) rfl #[] rfl (by (try simp only [List.map_toArray, List.map_cons, List.map_nil]); first | done | rfl | (simp only [List.length_drop, List.length_take]; rfl)) ?_; (with_reducible refine (decoupagelaw27_awake.calls k  false _ A3.out).mono ?_); rintro e w6 ⟨rfl, hb⟩; refine ⟨_, rfl, ?_⟩; have n0_ := Aside0.mk (below_step (by repeat (first | (with_reducible first | exact HB.out | apply below_alloc | apply pw_below_drewN | apply below_drew1) | exact HB.out)) hb); clear HB; have HB := n0_; clear n0_; (try clear hb); (try clear hb2); (try clear hk); (try clear hi)))
   go_meet
   case rel => exact ⟨_, (true), (by first | rfl | (simp; done) | (simp [*]; done)), H', ⟨by first | omega | exact Nat.le_refl _⟩, ⟨by repeat (first | (with_reducible first | exact HB.out | apply below_alloc | apply pw_below_drewN | apply below_drew1) | exact HB.out)⟩⟩
 case rest =>
  clear HC2
  try clear c1
  try clear p2
  try clear c3
  try clear c4
  obtain ⟨kq, x9_1, rfl, HA, HJ1, HB⟩ := hcut
  cases kq with
  | zero => exact absurd HA.out (by simp [decoupagelaw27_CullSifts.j0])
  | succ kj1 =>
   have H := HA.out
   clear HA
   simp only [decoupagelaw27_CullSifts.j0] at H
   by_cases c7 : x9_1 = true
   ·subst c7
    have H1 : ((decoupagelaw27_awake.f kj1).bind fun t289 => (some t289)) = some r := by rw [if_pos rfl] at H; exact H
    clear H
    have H := H1
    clear H1
    replace H := Option.bind_eq_some_iff.mp H
    obtain ⟨t289, A80, H⟩ := H
    replace H : (some t289) = some r := H
    have A8 := Aside0.mk A80
    clear A80
    obtain rfl := Option.some.inj H
    go_wp2_with (first | ((with_reducible refine gate_callee (f := 36) rfl ?_); refine goesL_ (some 10) rfl rfl Try.func36 (by kernel_rfl) rfl #[] rfl (by (try simp only [List.map_toArray, List.map_cons, List.map_nil]); first | done | rfl | (simp only [List.length_drop, List.length_take]; rfl)) ?_; (with_reducible refine (decoupagelaw27_awake.calls kj1  t289 _ A8.out).mono ?_); rintro e w9 ⟨rfl, hb⟩; refine ⟨_, rfl, ?_⟩; have n0_ := Aside0.mk (below_step (by repeat (first | (with_reducible first | exact HB.out | apply below_alloc | apply pw_below_drewN | apply below_drew1) | exact HB.out)) hb); clear HB; have HB := n0_; clear n0_; (try clear hb); (try clear hb2); (try clear hk); (try clear hi)))
    go_ret
    exact ⟨by first | rfl | (simp [errW_none, errW_some] <;> rfl) | (simp [*, errW_none, errW_some] <;> rfl), by repeat (first | (with_reducible first | exact HB.out | apply below_alloc | apply pw_below_drewN | apply below_drew1) | exact HB.out)⟩
   ·replace c7 := Bool.eq_false_iff.mpr c7
    subst c7
    have H1 : ((cull_Sift.f kj1 l0).bind fun t290 => ((decoupageref27_Sift.f kj1 l0).bind fun t293 => ((decoupageref25_Same.f kj1 t290 t293).bind fun t296 => (some t296)))) = some r := by rw [if_neg (show ¬ (false = true) by decide)] at H; exact H
    clear H
    have H := H1
    clear H1
    replace H := Option.bind_eq_some_iff.mp H
    obtain ⟨t290, A100, H⟩ := H
    replace H : ((decoupageref27_Sift.f kj1 l0).bind fun t293 => ((decoupageref25_Same.f kj1 t290 t293).bind fun t296 => (some t296))) = some r := H
    have A10 := Aside0.mk A100
    clear A100
    replace H := Option.bind_eq_some_iff.mp H
    obtain ⟨t293, A110, H⟩ := H
    replace H : ((decoupageref25_Same.f kj1 t290 t293).bind fun t296 => (some t296)) = some r := H
    have A11 := Aside0.mk A110
    clear A110
    replace H := Option.bind_eq_some_iff.mp H
    obtain ⟨t296, A120, H⟩ := H
    replace H : (some t296) = some r := H
    have A12 := Aside0.mk A120
    clear A120
    obtain rfl := Option.some.inj H
    go_wp2_with (first | ((with_reducible refine gate_callee (f := 42) rfl ?_); refine goesL_ (some 12) rfl rfl Try.func42 (by kernel_rfl) rfl #[.slice A0 l0.length c0] rfl (by (try simp only [List.map_toArray, List.map_cons, List.map_nil]); first | done | rfl | (simp only [List.length_drop, List.length_take]; rfl)) ?_; (with_reducible refine (cull_Sift.calls kj1 _ _ l0 t290 _ ?side1 ?side2 A10.out).mono ?_); (case side1 => repeat (first | exact (Kd.C_below HR0.out HB.out) | (with_reducible refine Kd.C_alloc ?_ _) | (with_reducible refine Kd.C_drewN ?_ _) | (with_reducible refine Kd.C_drew ?_))); (case side2 => exact HC0.out); rintro e w13 ⟨v291, rfl, ho0, hb⟩; refine ⟨_, rfl, ?_⟩; have n0_ := Aside0.mk (Kd.R_lower ho0 (below_size (by repeat (first | (with_reducible first | exact HB.out | apply below_alloc | apply pw_below_drewN | apply below_drew1) | exact HB.out)))); have n1_ := Aside0.mk (below_step (by repeat (first | (with_reducible first | exact HB.out | apply below_alloc | apply pw_below_drewN | apply below_drew1) | exact HB.out)) hb); clear HB; have HO292 := n0_; have HB := n1_; clear n0_ n1_; (try clear hb); (try clear hb2); (try clear hk); (try clear hi); (try clear ho0)) | ((with_reducible refine gate_callee (f := 43) rfl ?_); refine goesL_ (some 14) rfl rfl Try.func43 (by kernel_rfl) rfl #[.slice A0 l0.length c0] rfl (by (try simp only [List.map_toArray, List.map_cons, List.map_nil]); first | done | rfl | (simp only [List.length_drop, List.length_take]; rfl)) ?_; (with_reducible refine (decoupageref27_Sift.calls kj1 _ _ l0 t293 _ ?side1 ?side2 A11.out).mono ?_); (case side1 => repeat (first | exact (Kd.C_below HR0.out HB.out) | (with_reducible refine Kd.C_alloc ?_ _) | (with_reducible refine Kd.C_drewN ?_ _) | (with_reducible refine Kd.C_drew ?_))); (case side2 => exact HC0.out); rintro e w14 ⟨v294, rfl, ho0, hb⟩; refine ⟨_, rfl, ?_⟩; have n0_ := Aside0.mk (Kd.R_elder' (by (with_reducible repeat (first | apply Kd.R_alloc | apply Kd.R_drewN | apply Kd.R_drew)); exact HO292.out) (Kd.R_base ho0) hb); have n1_ := Aside0.mk (Kd.R_lower (Kd.R_new' ho0 (Kd.R_lt (by (with_reducible repeat (first | apply Kd.R_alloc | apply Kd.R_drewN | apply Kd.R_drew)); exact HO292.out))) (below_size (by repeat (first | (with_reducible first | exact HB.out | apply below_alloc | apply pw_below_drewN | apply below_drew1) | exact HB.out)))); have n2_ := Aside0.mk (below_step (by repeat (first | (with_reducible first | exact HB.out | apply below_alloc | apply pw_below_drewN | apply below_drew1) | exact HB.out)) hb); clear HO292; clear HB; have HO292 := n0_; have HO295 := n1_; have HB := n2_; clear n0_ n1_ n2_; (try clear hb); (try clear hb2); (try clear hk); (try clear hi); (try clear ho0); obtain ⟨Ao15, co15, eo15⟩ := Kd.R_slice HO292.out; subst eo15; obtain ⟨Ao16, co16, eo16⟩ := Kd.R_slice HO295.out; subst eo16) | ((with_reducible refine gate_callee (f := 38) rfl ?_); refine goesL_ (some 15) rfl rfl Try.func38 (by kernel_rfl) rfl #[.slice Ao15 t290.length co15, .slice Ao16 t293.length co16] rfl (by (try simp only [List.map_toArray, List.map_cons, List.map_nil]); first | done | rfl | (simp only [List.length_drop, List.length_take]; rfl)) ?_; (with_reducible refine (decoupageref25_Same.calls kj1 _ _ t290 _ _ t293 t296 _ ?side1 ?side2 ?side3 ?side4 A12.out).mono ?_); (case side1 => repeat (first | exact (Kd.R_reads' HO292.out).2.2 | (with_reducible refine Kd.C_alloc ?_ _) | (with_reducible refine Kd.C_drewN ?_ _) | (with_reducible refine Kd.C_drew ?_))); (case side2 => exact (Kd.R_reads' HO292.out).2.1); (case side3 => repeat (first | exact (Kd.R_reads' HO295.out).2.2 | (with_reducible refine Kd.C_alloc ?_ _) | (with_reducible refine Kd.C_drewN ?_ _) | (with_reducible refine Kd.C_drew ?_))); (case side4 => exact (Kd.R_reads' HO295.out).2.1); rintro e w' ⟨rfl, ⟨nd, rfl⟩⟩; refine ⟨_, rfl, ?_⟩))
    go_ret
    exact ⟨by first | rfl | (simp [errW_none, errW_some] <;> rfl) | (simp [*, errW_none, errW_some] <;> rfl), by repeat (first | (with_reducible first | exact HB.out | apply below_alloc | apply pw_below_drewN | apply below_drew1) | exact HB.out)⟩

end Go.Proofs.Ytipcledgblodjaa.PCullSifts
