/- What is proved: contracts of functions that the law CullTells reaches, written by program. Conditions: none but those in each statement. -/
import Derived.Test.YtipcledgblodjaaPCullTellsx0
import Derived.Test.YtipcledgblodjaaMCullTells3
import Derived.Test.YtipcledgblodjaaMCullTells4
import Derived.Test.YtipcledgblodjaaMCullTells6
import Derived.Test.YtipcledgblodjaaMCullTells8
namespace Go.Proofs.Ytipcledgblodjaa.PCullTells
open Go.RowKit Go.Proofs.YtipcledgblodjaaW.PrintWords Go.Proofs.YtipcledgblodjaaW.PrintLast Go.Proofs.YtipcledgblodjaaW.PrintMore
attribute [local go_sem] max2_int min2_int max_two min_two max_three min_three max_four min_four   -- for this text's walks alone
set_option linter.unusedVariables false
set_option linter.unusedSimpArgs false

/-! ### decoupageref27_Cull: function 40 -/
def decoupageref27_Cull.l0 : Nat → List (S26) → List (S26) → Int → Int → Option ((List (S26)))
  | 0, _, _, _, _ => none
  | k + 1, x0, x3, x6, x7 => if x7 < x6 then ((decoupageref27_Hidden.f k x0 x7).bind fun t253 => (if t253 = true then (decoupageref27_Cull.l0 k x0 x3 x6 (wrap64 (x7 + 1))) else (if 0 ≤ x7 then (if x7 < (x0.length : Int) then (if x3.length < 1172812402961 then (decoupageref27_Cull.l0 k x0 (x3 ++ [(⟨(rd_T26 x0 x7).f0, (rd_T26 x0 x7).f1, (⟨(rd_T26 x0 x7).f2.f0, (rd_T26 x0 x7).f2.f1, (rd_T26 x0 x7).f2.f2, (rd_T26 x0 x7).f2.f3⟩ : S24), (⟨(rd_T26 x0 x7).f3.f0, (rd_T26 x0 x7).f3.f1, (rd_T26 x0 x7).f3.f2, (rd_T26 x0 x7).f3.f3⟩ : S24), (⟨(rd_T26 x0 x7).f4.f0, (rd_T26 x0 x7).f4.f1, (rd_T26 x0 x7).f4.f2, (rd_T26 x0 x7).f4.f3⟩ : S24), (rd_T26 x0 x7).f5⟩ : S26)]) x6 (wrap64 (x7 + 1))) else (none)) else (none)) else (none)))) else (some x3)
def decoupageref27_Cull.f (k : Nat) (l0 : List (S26)) : Option ((List (S26))) := decoupageref27_Cull.l0 k l0 ([] : List (S26)) (l0.length : Int) 0
theorem decoupageref27_Cull.mono_l : ∀ k, (∀ y0 y1 y2 y3, LeO (decoupageref27_Cull.l0 k y0 y1 y2 y3) (decoupageref27_Cull.l0 (k + 1) y0 y1 y2 y3))
  | 0 => fun _ _ _ _ r h => by simp [decoupageref27_Cull.l0] at h
  | k + 1 => by
    have ih0 := decoupageref27_Cull.mono_l k
    · intro y0 y1 y2 y3
      unfold decoupageref27_Cull.l0
      repeat' first
      | (with_reducible exact ih0 _ _ _ _)
      | (with_reducible exact decoupageref27_Hidden.mono _ _ _)
      | (with_reducible exact LeO.refl _)
      | (with_reducible exact LeO.none _)
      | (with_reducible refine LeO.ite ?_ ?_)
      | (with_reducible refine LeO.bind ?_ (fun _ => ?_))
      | exact ih0 _ _ _ _
      | exact decoupageref27_Hidden.mono _ _ _
      | exact LeO.none _
      | refine LeO.ite ?_ ?_
      | refine LeO.bind ?_ (fun _ => ?_)
theorem decoupageref27_Cull.mono : ∀ a0 k, LeO (decoupageref27_Cull.f k a0) (decoupageref27_Cull.f (k + 1) a0) := by
  intro a0 k
  have ih0 := decoupageref27_Cull.mono_l k
  unfold decoupageref27_Cull.f
  repeat' first
      | (with_reducible exact ih0 _ _ _ _)
      | (with_reducible exact decoupageref27_Hidden.mono _ _ _)
      | (with_reducible exact LeO.refl _)
      | (with_reducible exact LeO.none _)
      | (with_reducible refine LeO.ite ?_ ?_)
      | (with_reducible refine LeO.bind ?_ (fun _ => ?_))
      | exact ih0 _ _ _ _
      | exact decoupageref27_Hidden.mono _ _ _
      | exact LeO.none _
      | refine LeO.ite ?_ ?_
      | refine LeO.bind ?_ (fun _ => ?_)
set_option maxHeartbeats 8000000 in
set_option maxRecDepth 100000 in
theorem decoupageref27_Cull.calls (k : Nat) (A0 : Option Addr) (c0 : Nat) (l0 : List (S26)) (r : List (S26)) (w : World) (hr0 : Kd.C k26 w A0 l0.length l0) (hc0 : l0.length ≤ c0) (h : decoupageref27_Cull.f k l0 = some r) :
    Calls Try.prog 40 #[.slice A0 l0.length c0] w fun e w' => ∃ v0_ : Value, e = .returned (v0_) ∧ Kd.R k26 26 w' w.heap.size (fun _ => True) v0_ r ∧ Below w.heap.size w w' := by
  have hu26 := Try.underlying26
  have HR0 := Aside0.mk hr0
  have HC0 := Aside0.mk hc0
  clear hr0 hc0
  have HB := Aside0.mk (Below.refl w.heap.size w)
  have H : (decoupageref27_Cull.l0 k l0 ([] : List (S26)) (l0.length : Int) 0) = some r := h
  clear h
  have H' := Aside0.mk H
  clear H
  go_enter Try.func40, Try.ntmps40
  go_wp2
  go_loopg [3, 7] k (fun kq v3 v7 w' => ∃ (x3_1 : List (S26)) (x7_1 : Int), v7 = .int .i64 x7_1 ∧ Aside0 (decoupageref27_Cull.l0 kq l0 x3_1 (l0.length : Int) x7_1 = some r) ∧ Aside0 (kq ≤ k) ∧ Aside0 (Kd.R k26 26 w' w.heap.size (fun _ => True) v3 x3_1) ∧ Aside0 (Below w.heap.size w w'))
  case atStart => exact ⟨(([] : List (S26))), (0), (by first | rfl | (simp; done) | (simp [*]; done)), H', ⟨Nat.le_refl _⟩, ⟨by first | exact Kd.R_nil _ _ _ _ _ | exact Kd.N_nil _ _ _ _ _ | exact Kd.V_nil _ _ _ _ _ | exact Kd.Q_nil _ _ _ _ _ | exact Kd.S_nil _ _ _ _ _⟩, ⟨by repeat (first | (with_reducible first | exact HB.out | apply below_alloc | apply pw_below_drewN | apply below_drew1) | exact HB.out)⟩⟩
  case round =>
    clear H'
    obtain ⟨x3_1, x7_1, rfl, HA, HK1, HO_3, HB⟩ := hrel
    cases gk with
    | zero => exact absurd HA.out (by simp [decoupageref27_Cull.l0])
    | succ k1 =>
      have H := HA.out
      clear HA
      simp only [decoupageref27_Cull.l0] at H
      by_cases c2 : x7_1 < (l0.length : Int)
      · rw [if_pos c2] at H
        have c2b0 : decide (x7_1 < (l0.length : Int)) = true := decide_eq_true c2
        clear c2
        replace H := Option.bind_eq_some_iff.mp H
        obtain ⟨t253, A30, H⟩ := H
        replace H : (if t253 = true then (decoupageref27_Cull.l0 k1 l0 x3_1 (l0.length : Int) (wrap64 (x7_1 + 1))) else (if 0 ≤ x7_1 then (if x7_1 < (l0.length : Int) then (if x3_1.length < 1172812402961 then (decoupageref27_Cull.l0 k1 l0 (x3_1 ++ [(⟨(rd_T26 l0 x7_1).f0, (rd_T26 l0 x7_1).f1, (⟨(rd_T26 l0 x7_1).f2.f0, (rd_T26 l0 x7_1).f2.f1, (rd_T26 l0 x7_1).f2.f2, (rd_T26 l0 x7_1).f2.f3⟩ : S24), (⟨(rd_T26 l0 x7_1).f3.f0, (rd_T26 l0 x7_1).f3.f1, (rd_T26 l0 x7_1).f3.f2, (rd_T26 l0 x7_1).f3.f3⟩ : S24), (⟨(rd_T26 l0 x7_1).f4.f0, (rd_T26 l0 x7_1).f4.f1, (rd_T26 l0 x7_1).f4.f2, (rd_T26 l0 x7_1).f4.f3⟩ : S24), (rd_T26 l0 x7_1).f5⟩ : S26)]) (l0.length : Int) (wrap64 (x7_1 + 1))) else (none)) else (none)) else (none))) = some r := H
        have A3 := Aside0.mk A30
        clear A30
        by_cases c4 : t253 = true
        · subst c4
          have H1 : (decoupageref27_Cull.l0 k1 l0 x3_1 (l0.length : Int) (wrap64 (x7_1 + 1))) = some r := by rw [if_pos rfl] at H; exact H
          clear H
          have H := H1
          clear H1
          have H' := Aside0.mk H
          clear H
          go_wp2_with (first | ((with_reducible refine gate_callee (f := 37) rfl ?_); refine goesL_ (some 12) rfl rfl Try.func37 (by kernel_rfl) rfl #[.slice A0 l0.length c0, .int .i64 x7_1] rfl (by (try simp only [List.map_toArray, List.map_cons, List.map_nil]); first | done | rfl | (simp only [List.length_drop, List.length_take]; rfl)) ?_; (with_reducible refine (decoupageref27_Hidden.calls k1 _ _ l0 x7_1 true _ ?side1 ?side2 A3.out).mono ?_); (case side1 => repeat (first | exact (Kd.C_below HR0.out HB.out) | (with_reducible refine Kd.C_alloc ?_ _) | (with_reducible refine Kd.C_drewN ?_ _) | (with_reducible refine Kd.C_drew ?_))); (case side2 => exact HC0.out); rintro e w5 ⟨rfl, hb⟩; refine ⟨_, rfl, ?_⟩; have n0_ := Aside0.mk (Kd.R_below (by (with_reducible repeat (first | apply Kd.R_alloc | apply Kd.R_drewN | apply Kd.R_drew)); exact HO_3.out) hb); have n1_ := Aside0.mk (below_step (by repeat (first | (with_reducible first | exact HB.out | apply below_alloc | apply pw_below_drewN | apply below_drew1) | exact HB.out)) hb); clear HO_3; clear HB; have HO_3 := n0_; have HB := n1_; clear n0_ n1_; (try clear hb); (try clear hb2); (try clear hk); (try clear hi)))
          go_roundg k1
          case measure => have := HK1.out; omega
          case rel => exact ⟨(x3_1), (wrap64 (x7_1 + 1)), (by first | rfl | (simp; done) | (simp [*]; done)), H', ⟨by have := HK1.out; omega⟩, ⟨by (with_reducible repeat (first | apply Kd.R_alloc | apply Kd.R_drewN | apply Kd.R_drew)); exact HO_3.out⟩, ⟨by repeat (first | (with_reducible first | exact HB.out | apply below_alloc | apply pw_below_drewN | apply below_drew1) | exact HB.out)⟩⟩
        · replace c4 := Bool.eq_false_iff.mpr c4
          subst c4
          have H1 : (if 0 ≤ x7_1 then (if x7_1 < (l0.length : Int) then (if x3_1.length < 1172812402961 then (decoupageref27_Cull.l0 k1 l0 (x3_1 ++ [(⟨(rd_T26 l0 x7_1).f0, (rd_T26 l0 x7_1).f1, (⟨(rd_T26 l0 x7_1).f2.f0, (rd_T26 l0 x7_1).f2.f1, (rd_T26 l0 x7_1).f2.f2, (rd_T26 l0 x7_1).f2.f3⟩ : S24), (⟨(rd_T26 l0 x7_1).f3.f0, (rd_T26 l0 x7_1).f3.f1, (rd_T26 l0 x7_1).f3.f2, (rd_T26 l0 x7_1).f3.f3⟩ : S24), (⟨(rd_T26 l0 x7_1).f4.f0, (rd_T26 l0 x7_1).f4.f1, (rd_T26 l0 x7_1).f4.f2, (rd_T26 l0 x7_1).f4.f3⟩ : S24), (rd_T26 l0 x7_1).f5⟩ : S26)]) (l0.length : Int) (wrap64 (x7_1 + 1))) else (none)) else (none)) else (none)) = some r := by rw [if_neg (show ¬ (false = true) by decide)] at H; exact H
          clear H
          have H := H1
          clear H1
          by_cases c6 : 0 ≤ x7_1
          · rw [if_pos c6] at H
            have c6b0 : decide (0 ≤ x7_1) = true := decide_eq_true c6
            clear c6
            by_cases c7 : x7_1 < (l0.length : Int)
            · rw [if_pos c7] at H
              have c7b0 : decide (x7_1 < (l0.length : Int)) = true := decide_eq_true c7
              clear c7
              by_cases c8 : x3_1.length < 1172812402961
              · rw [if_pos c8] at H
                have LMc8 := Aside0.mk c8
                clear c8
                obtain ⟨y255, hy255⟩ : ∃ y_ : List (S26), y_ = (x3_1 ++ [(⟨(rd_T26 l0 x7_1).f0, (rd_T26 l0 x7_1).f1, (⟨(rd_T26 l0 x7_1).f2.f0, (rd_T26 l0 x7_1).f2.f1, (rd_T26 l0 x7_1).f2.f2, (rd_T26 l0 x7_1).f2.f3⟩ : S24), (⟨(rd_T26 l0 x7_1).f3.f0, (rd_T26 l0 x7_1).f3.f1, (rd_T26 l0 x7_1).f3.f2, (rd_T26 l0 x7_1).f3.f3⟩ : S24), (⟨(rd_T26 l0 x7_1).f4.f0, (rd_T26 l0 x7_1).f4.f1, (rd_T26 l0 x7_1).f4.f2, (rd_T26 l0 x7_1).f4.f3⟩ : S24), (rd_T26 l0 x7_1).f5⟩ : S26)]) := ⟨_, rfl⟩
                replace H : (decoupageref27_Cull.l0 k1 l0 y255 (l0.length : Int) (wrap64 (x7_1 + 1))) = some r := by first | (rw [hy255]; with_reducible exact H) | (have H2_ := (Option.bind_some _ _).symm.trans H; rw [hy255]; with_reducible exact H2_) | (have H2_ := (Option.bind_some _ _).symm.trans H; with_reducible exact H2_) | with_reducible exact H | (rw [hy255]; exact H) | exact H
                have Ny255 := Aside0.mk hy255
                clear hy255
                have H' := Aside0.mk H
                clear H
                go_wp2_with (first | ((with_reducible refine gate_callee (f := 37) rfl ?_); refine goesL_ (some 12) rfl rfl Try.func37 (by kernel_rfl) rfl #[.slice A0 l0.length c0, .int .i64 x7_1] rfl (by (try simp only [List.map_toArray, List.map_cons, List.map_nil]); first | done | rfl | (simp only [List.length_drop, List.length_take]; rfl)) ?_; (with_reducible refine (decoupageref27_Hidden.calls k1 _ _ l0 x7_1 false _ ?side1 ?side2 A3.out).mono ?_); (case side1 => repeat (first | exact (Kd.C_below HR0.out HB.out) | (with_reducible refine Kd.C_alloc ?_ _) | (with_reducible refine Kd.C_drewN ?_ _) | (with_reducible refine Kd.C_drew ?_))); (case side2 => exact HC0.out); rintro e w9 ⟨rfl, hb⟩; refine ⟨_, rfl, ?_⟩; have n0_ := Aside0.mk (Kd.R_below (by (with_reducible repeat (first | apply Kd.R_alloc | apply Kd.R_drewN | apply Kd.R_drew)); exact HO_3.out) hb); have n1_ := Aside0.mk (below_step (by repeat (first | (with_reducible first | exact HB.out | apply below_alloc | apply pw_below_drewN | apply below_drew1) | exact HB.out)) hb); clear HO_3; clear HB; have HO_3 := n0_; have HB := n1_; clear n0_ n1_; (try clear hb); (try clear hb2); (try clear hk); (try clear hi); have p254 : 0 ≤ (x7_1 : Int) := of_decide_eq_true (by first | (with_reducible assumption) | assumption); have q254 : x7_1 < (l0.length : Int) := of_decide_eq_true (by first | (with_reducible assumption) | assumption); obtain ⟨ad254, e254, hx254_0, hx254_1, hx254_2, hx254_3, hx254_4, hx254_5, hx254_6, hx254_7, hx254_8, hx254_9, hx254_10, hx254_11, hx254_12, hx254_13, hx254_14⟩ := at_T26 HR0.out x7_1 p254 q254; cases e254; replace hx254_0 := (HB.out.cell (World.block_lt_of_cell? w _ hx254_0)).trans hx254_0; replace hx254_1 := (HB.out.cell (World.block_lt_of_cell? w _ hx254_1)).trans hx254_1; replace hx254_2 := (HB.out.cell (World.block_lt_of_cell? w _ hx254_2)).trans hx254_2; replace hx254_3 := (HB.out.cell (World.block_lt_of_cell? w _ hx254_3)).trans hx254_3; replace hx254_4 := (HB.out.cell (World.block_lt_of_cell? w _ hx254_4)).trans hx254_4; replace hx254_5 := (HB.out.cell (World.block_lt_of_cell? w _ hx254_5)).trans hx254_5; replace hx254_6 := (HB.out.cell (World.block_lt_of_cell? w _ hx254_6)).trans hx254_6; replace hx254_7 := (HB.out.cell (World.block_lt_of_cell? w _ hx254_7)).trans hx254_7; replace hx254_8 := (HB.out.cell (World.block_lt_of_cell? w _ hx254_8)).trans hx254_8; replace hx254_9 := (HB.out.cell (World.block_lt_of_cell? w _ hx254_9)).trans hx254_9; replace hx254_10 := (HB.out.cell (World.block_lt_of_cell? w _ hx254_10)).trans hx254_10; replace hx254_11 := (HB.out.cell (World.block_lt_of_cell? w _ hx254_11)).trans hx254_11; replace hx254_12 := (HB.out.cell (World.block_lt_of_cell? w _ hx254_12)).trans hx254_12; replace hx254_13 := (HB.out.cell (World.block_lt_of_cell? w _ hx254_13)).trans hx254_13; replace hx254_14 := (HB.out.cell (World.block_lt_of_cell? w _ hx254_14)).trans hx254_14; replace p254 := eq_true p254; replace q254 := eq_true q254) | ((with_reducible refine gate_builtin (b := .append) (xs := #[.tmp 14, .tmp 19]) rfl ?_); at_builtin; refine Kd.R_append k26 (w0 := w) w.heap.size rfl (.tmp 14) (.tmp 19) 22 26 (.agg #[(.int .i64 0), (.int .i64 0), (.int .i64 0), (.int .i64 0), (.int .i64 0), (.int .i64 0), (.int .i64 0), (.int .i64 0), (.int .i64 0), (.int .i64 0), (.int .i64 0), (.int .i64 0), (.int .i64 0), (.int .i64 0), (.int .i64 0)]) 120 rfl Try.underlying22 info26 rfl (by decide) (by omega) u3 x3_1 (⟨(rd_T26 l0 x7_1).f0, (rd_T26 l0 x7_1).f1, (⟨(rd_T26 l0 x7_1).f2.f0, (rd_T26 l0 x7_1).f2.f1, (rd_T26 l0 x7_1).f2.f2, (rd_T26 l0 x7_1).f2.f3⟩ : S24), (⟨(rd_T26 l0 x7_1).f3.f0, (rd_T26 l0 x7_1).f3.f1, (rd_T26 l0 x7_1).f3.f2, (rd_T26 l0 x7_1).f3.f3⟩ : S24), (⟨(rd_T26 l0 x7_1).f4.f0, (rd_T26 l0 x7_1).f4.f1, (rd_T26 l0 x7_1).f4.f2, (rd_T26 l0 x7_1).f4.f3⟩ : S24), (rd_T26 l0 x7_1).f5⟩ : S26) [.int .i64 ((rd_T26 l0 x7_1).f0), .int .i64 ((rd_T26 l0 x7_1).f1), .int .i64 ((rd_T26 l0 x7_1).f2.f0), .int .i64 ((rd_T26 l0 x7_1).f2.f1), .int .i64 ((rd_T26 l0 x7_1).f2.f2), .int .i64 ((rd_T26 l0 x7_1).f2.f3), .int .i64 ((rd_T26 l0 x7_1).f3.f0), .int .i64 ((rd_T26 l0 x7_1).f3.f1), .int .i64 ((rd_T26 l0 x7_1).f3.f2), .int .i64 ((rd_T26 l0 x7_1).f3.f3), .int .i64 ((rd_T26 l0 x7_1).f4.f0), .int .i64 ((rd_T26 l0 x7_1).f4.f1), .int .i64 ((rd_T26 l0 x7_1).f4.f2), .int .i64 ((rd_T26 l0 x7_1).f4.f3), .int .i64 ((rd_T26 l0 x7_1).f5)] (fun _ => True) (fun _ => False) rfl rfl ?aP (fun _ hk => hk.elim) ?aF ?aO ?aB ?aS ?aL ?_; (case aP => exact k26_mkM _ _ _ (⟨(rd_T26 l0 x7_1).f0, (rd_T26 l0 x7_1).f1, (⟨(rd_T26 l0 x7_1).f2.f0, (rd_T26 l0 x7_1).f2.f1, (rd_T26 l0 x7_1).f2.f2, (rd_T26 l0 x7_1).f2.f3⟩ : S24), (⟨(rd_T26 l0 x7_1).f3.f0, (rd_T26 l0 x7_1).f3.f1, (rd_T26 l0 x7_1).f3.f2, (rd_T26 l0 x7_1).f3.f3⟩ : S24), (⟨(rd_T26 l0 x7_1).f4.f0, (rd_T26 l0 x7_1).f4.f1, (rd_T26 l0 x7_1).f4.f2, (rd_T26 l0 x7_1).f4.f3⟩ : S24), (rd_T26 l0 x7_1).f5⟩ : S26)); (case aB => exact (by repeat (first | (with_reducible first | exact HB.out | apply below_alloc | apply pw_below_drewN | apply below_drew1) | exact HB.out))); (case aF => exact (fun _ _ => trivial)); (case aO => exact (by (with_reducible repeat (first | apply Kd.R_alloc | apply Kd.R_drewN | apply Kd.R_drew)); exact HO_3.out)); (case aS => exact (below_size (by repeat (first | (with_reducible first | exact HB.out | apply below_alloc | apply pw_below_drewN | apply below_drew1) | exact HB.out)))); (case aL => have := LMc8.out; omega); intro v256 w10 ho hb hg hat; rw [← Ny255.out] at ho; have n0_ := Aside0.mk (hb); have n1_ := Aside0.mk (ho); clear HB; clear HO_3; have HB := n0_; have HO257 := n1_; clear n0_ n1_; clear ho hb hg hat))
                go_roundg k1
                case measure => have := HK1.out; omega
                case rel => exact ⟨(y255), (wrap64 (x7_1 + 1)), (by first | rfl | (simp; done) | (simp [*]; done)), H', ⟨by have := HK1.out; omega⟩, ⟨by (with_reducible repeat (first | apply Kd.R_alloc | apply Kd.R_drewN | apply Kd.R_drew)); exact HO257.out⟩, ⟨by repeat (first | (with_reducible first | exact HB.out | apply below_alloc | apply pw_below_drewN | apply below_drew1) | exact HB.out)⟩⟩
              · rw [if_neg c8] at H
                exact absurd H (by simp)
            · rw [if_neg c7] at H
              exact absurd H (by simp)
          · rw [if_neg c6] at H
            exact absurd H (by simp)
      · rw [if_neg c2] at H
        have c2b0 : decide (x7_1 < (l0.length : Int)) = false := decide_eq_false c2
        clear c2
        obtain rfl := Option.some.inj H
        go_wp2
        go_ret
        exact ⟨_, by first | rfl | (simp [errW_none, errW_some] <;> rfl) | (simp [*, errW_none, errW_some] <;> rfl), by (with_reducible repeat (first | apply Kd.R_alloc | apply Kd.R_drewN | apply Kd.R_drew)); exact HO_3.out, by repeat (first | (with_reducible first | exact HB.out | apply below_alloc | apply pw_below_drewN | apply below_drew1) | exact HB.out)⟩

/-! ### decoupagelaw27_CullTells: function 10 -/
mutual
def decoupagelaw27_CullTells.j0 : Nat → List (S26) → Int → Bool → Option (Bool)
  | 0, _, _, _ => none
  | k + 1, x0, x1, x13 => if x13 = true then ((decoupagelaw27_awake.f k).bind fun t259 => (some t259)) else (if x1 ≥ 0 then (decoupagelaw27_CullTells.j1 k x0 x1 (decide (x1 < (x0.length : Int)))) else (decoupagelaw27_CullTells.j1 k x0 x1 false))
def decoupagelaw27_CullTells.j1 : Nat → List (S26) → Int → Bool → Option (Bool)
  | 0, _, _, _ => none
  | k + 1, x0, x1, x5 => if x5 = true then ((decoupageref27_Hidden.f k x0 x1).bind fun t260 => (decoupagelaw27_CullTells.j2 k x0 x1 t260)) else (decoupagelaw27_CullTells.j2 k x0 x1 false)
def decoupagelaw27_CullTells.j2 : Nat → List (S26) → Int → Bool → Option (Bool)
  | 0, _, _, _ => none
  | k + 1, x0, x1, x6 => (cull_Cull.f k x0).bind fun t261 => ((decoupageref27_Cull.f k x0).bind fun t264 => ((decoupageref25_Same.f k t261 t264).bind fun t267 => (if t267 = true then ((cull_Hidden.f k x0 x1).bind fun t268 => (some (t268 == x6))) else (some false))))
end
def decoupagelaw27_CullTells.f (k : Nat) (l0 : List (S26)) (a1 : Int) : Option (Bool) := (decoupagelaw27_awake.f k).bind fun t258 => (if t258 = true then (decoupagelaw27_CullTells.j0 k l0 a1 (decide ((l0.length : Int) > 60))) else (decoupagelaw27_CullTells.j0 k l0 a1 true))
theorem decoupagelaw27_CullTells.mono_l : ∀ k, (∀ y0 y1 y2, LeO (decoupagelaw27_CullTells.j0 k y0 y1 y2) (decoupagelaw27_CullTells.j0 (k + 1) y0 y1 y2)) ∧ (∀ y0 y1 y2, LeO (decoupagelaw27_CullTells.j1 k y0 y1 y2) (decoupagelaw27_CullTells.j1 (k + 1) y0 y1 y2)) ∧ (∀ y0 y1 y2, LeO (decoupagelaw27_CullTells.j2 k y0 y1 y2) (decoupagelaw27_CullTells.j2 (k + 1) y0 y1 y2))
  | 0 => ⟨fun _ _ _ r h => by simp [decoupagelaw27_CullTells.j0] at h, fun _ _ _ r h => by simp [decoupagelaw27_CullTells.j1] at h, fun _ _ _ r h => by simp [decoupagelaw27_CullTells.j2] at h⟩
  | k + 1 => by
    obtain ⟨ih0, ih1, ih2⟩ := decoupagelaw27_CullTells.mono_l k
    refine ⟨?_, ?_, ?_⟩
    · intro y0 y1 y2
      unfold decoupagelaw27_CullTells.j0
      repeat' first
      | (with_reducible exact ih0 _ _ _)
      | (with_reducible exact ih1 _ _ _)
      | (with_reducible exact ih2 _ _ _)
      | (with_reducible exact cull_Cull.mono _ _)
      | (with_reducible exact cull_Hidden.mono _ _ _)
      | (with_reducible exact decoupagelaw27_awake.mono _)
      | (with_reducible exact decoupageref25_Same.mono _ _ _)
      | (with_reducible exact decoupageref27_Cull.mono _ _)
      | (with_reducible exact decoupageref27_Hidden.mono _ _ _)
      | (with_reducible exact LeO.refl _)
      | (with_reducible exact LeO.none _)
      | (with_reducible refine LeO.ite ?_ ?_)
      | (with_reducible refine LeO.bind ?_ (fun _ => ?_))
      | exact ih0 _ _ _
      | exact ih1 _ _ _
      | exact ih2 _ _ _
      | exact cull_Cull.mono _ _
      | exact cull_Hidden.mono _ _ _
      | exact decoupagelaw27_awake.mono _
      | exact decoupageref25_Same.mono _ _ _
      | exact decoupageref27_Cull.mono _ _
      | exact decoupageref27_Hidden.mono _ _ _
      | exact LeO.none _
      | refine LeO.ite ?_ ?_
      | refine LeO.bind ?_ (fun _ => ?_)
    · intro y0 y1 y2
      unfold decoupagelaw27_CullTells.j1
      repeat' first
      | (with_reducible exact ih0 _ _ _)
      | (with_reducible exact ih1 _ _ _)
      | (with_reducible exact ih2 _ _ _)
      | (with_reducible exact cull_Cull.mono _ _)
      | (with_reducible exact cull_Hidden.mono _ _ _)
      | (with_reducible exact decoupagelaw27_awake.mono _)
      | (with_reducible exact decoupageref25_Same.mono _ _ _)
      | (with_reducible exact decoupageref27_Cull.mono _ _)
      | (with_reducible exact decoupageref27_Hidden.mono _ _ _)
      | (with_reducible exact LeO.refl _)
      | (with_reducible exact LeO.none _)
      | (with_reducible refine LeO.ite ?_ ?_)
      | (with_reducible refine LeO.bind ?_ (fun _ => ?_))
      | exact ih0 _ _ _
      | exact ih1 _ _ _
      | exact ih2 _ _ _
      | exact cull_Cull.mono _ _
      | exact cull_Hidden.mono _ _ _
      | exact decoupagelaw27_awake.mono _
      | exact decoupageref25_Same.mono _ _ _
      | exact decoupageref27_Cull.mono _ _
      | exact decoupageref27_Hidden.mono _ _ _
      | exact LeO.none _
      | refine LeO.ite ?_ ?_
      | refine LeO.bind ?_ (fun _ => ?_)
    · intro y0 y1 y2
      unfold decoupagelaw27_CullTells.j2
      repeat' first
      | (with_reducible exact ih0 _ _ _)
      | (with_reducible exact ih1 _ _ _)
      | (with_reducible exact ih2 _ _ _)
      | (with_reducible exact cull_Cull.mono _ _)
      | (with_reducible exact cull_Hidden.mono _ _ _)
      | (with_reducible exact decoupagelaw27_awake.mono _)
      | (with_reducible exact decoupageref25_Same.mono _ _ _)
      | (with_reducible exact decoupageref27_Cull.mono _ _)
      | (with_reducible exact decoupageref27_Hidden.mono _ _ _)
      | (with_reducible exact LeO.refl _)
      | (with_reducible exact LeO.none _)
      | (with_reducible refine LeO.ite ?_ ?_)
      | (with_reducible refine LeO.bind ?_ (fun _ => ?_))
      | exact ih0 _ _ _
      | exact ih1 _ _ _
      | exact ih2 _ _ _
      | exact cull_Cull.mono _ _
      | exact cull_Hidden.mono _ _ _
      | exact decoupagelaw27_awake.mono _
      | exact decoupageref25_Same.mono _ _ _
      | exact decoupageref27_Cull.mono _ _
      | exact decoupageref27_Hidden.mono _ _ _
      | exact LeO.none _
      | refine LeO.ite ?_ ?_
      | refine LeO.bind ?_ (fun _ => ?_)
theorem decoupagelaw27_CullTells.mono : ∀ a0 a1 k, LeO (decoupagelaw27_CullTells.f k a0 a1) (decoupagelaw27_CullTells.f (k + 1) a0 a1) := by
  intro a0 a1 k
  obtain ⟨ih0, ih1, ih2⟩ := decoupagelaw27_CullTells.mono_l k
  unfold decoupagelaw27_CullTells.f
  repeat' first
      | (with_reducible exact ih0 _ _ _)
      | (with_reducible exact ih1 _ _ _)
      | (with_reducible exact ih2 _ _ _)
      | (with_reducible exact cull_Cull.mono _ _)
      | (with_reducible exact cull_Hidden.mono _ _ _)
      | (with_reducible exact decoupagelaw27_awake.mono _)
      | (with_reducible exact decoupageref25_Same.mono _ _ _)
      | (with_reducible exact decoupageref27_Cull.mono _ _)
      | (with_reducible exact decoupageref27_Hidden.mono _ _ _)
      | (with_reducible exact LeO.refl _)
      | (with_reducible exact LeO.none _)
      | (with_reducible refine LeO.ite ?_ ?_)
      | (with_reducible refine LeO.bind ?_ (fun _ => ?_))
      | exact ih0 _ _ _
      | exact ih1 _ _ _
      | exact ih2 _ _ _
      | exact cull_Cull.mono _ _
      | exact cull_Hidden.mono _ _ _
      | exact decoupagelaw27_awake.mono _
      | exact decoupageref25_Same.mono _ _ _
      | exact decoupageref27_Cull.mono _ _
      | exact decoupageref27_Hidden.mono _ _ _
      | exact LeO.none _
      | refine LeO.ite ?_ ?_
      | refine LeO.bind ?_ (fun _ => ?_)
set_option maxHeartbeats 8000000 in
set_option maxRecDepth 100000 in
theorem decoupagelaw27_CullTells.calls (k : Nat) (A0 : Option Addr) (c0 : Nat) (l0 : List (S26)) (a1 : Int) (r : Bool) (w : World) (hr0 : Kd.C k26 w A0 l0.length l0) (hc0 : l0.length ≤ c0) (h : decoupagelaw27_CullTells.f k l0 a1 = some r) :
    Calls Try.prog 10 #[.slice A0 l0.length c0, .int .i64 a1] w fun e w' => e = .returned (.bool r) ∧ Below w.heap.size w w' := by
  have HR0 := Aside0.mk hr0
  have HC0 := Aside0.mk hc0
  clear hr0 hc0
  have HB := Aside0.mk (Below.refl w.heap.size w)
  have H : ((decoupagelaw27_awake.f k).bind fun t258 => (if t258 = true then (decoupagelaw27_CullTells.j0 k l0 a1 (decide ((l0.length : Int) > 60))) else (decoupagelaw27_CullTells.j0 k l0 a1 true))) = some r := h
  clear h
  have HC3 := Aside0.mk H
  clear H
  go_enter Try.func10, Try.ntmps10
  go_upto_region 1 with (fail)
  go_cut [13] (fun v13 wc => ∃ (kq : Nat) (x13_2 : Bool), v13 = .bool x13_2 ∧ Aside0 (decoupagelaw27_CullTells.j0 kq l0 a1 x13_2 = some r) ∧ Aside0 (kq ≤ k) ∧ Aside0 (Below w.heap.size w wc))
  case first =>
    have H := HC3.out
    clear HC3
    replace H := Option.bind_eq_some_iff.mp H
    obtain ⟨t258, A40, H⟩ := H
    replace H : (if t258 = true then (decoupagelaw27_CullTells.j0 k l0 a1 (decide ((l0.length : Int) > 60))) else (decoupagelaw27_CullTells.j0 k l0 a1 true)) = some r := H
    have A4 := Aside0.mk A40
    clear A40
    by_cases c5 : t258 = true
    · subst c5
      have H1 : (decoupagelaw27_CullTells.j0 k l0 a1 (decide ((l0.length : Int) > 60))) = some r := by rw [if_pos rfl] at H; exact H
      clear H
      have H := H1
      clear H1
      have H' := Aside0.mk H
      clear H
      go_wp2_with (first | ((with_reducible refine gate_callee (f := 36) rfl ?_); refine goesL_ (some 7) rfl rfl Try.func36 (by kernel_rfl) rfl #[] rfl (by (try simp only [List.map_toArray, List.map_cons, List.map_nil]); first | done | rfl | (simp only [List.length_drop, List.length_take]; rfl)) ?_; (with_reducible refine (decoupagelaw27_awake.calls k  true _ A4.out).mono ?_); rintro e w6 ⟨rfl, hb⟩; refine ⟨_, rfl, ?_⟩; have n0_ := Aside0.mk (below_step (by repeat (first | (with_reducible first | exact HB.out | apply below_alloc | apply pw_below_drewN | apply below_drew1) | exact HB.out)) hb); clear HB; have HB := n0_; clear n0_; (try clear hb); (try clear hb2); (try clear hk); (try clear hi)))
      go_meet
      case rel => exact ⟨_, (decide ((l0.length : Int) > 60)), (by first | rfl | (simp; done) | (simp [*]; done)), H', ⟨by first | omega | exact Nat.le_refl _⟩, ⟨by repeat (first | (with_reducible first | exact HB.out | apply below_alloc | apply pw_below_drewN | apply below_drew1) | exact HB.out)⟩⟩
    · replace c5 := Bool.eq_false_iff.mpr c5
      subst c5
      have H1 : (decoupagelaw27_CullTells.j0 k l0 a1 true) = some r := by rw [if_neg (show ¬ (false = true) by decide)] at H; exact H
      clear H
      have H := H1
      clear H1
      have H' := Aside0.mk H
      clear H
      go_wp2_with (first | ((with_reducible refine gate_callee (f := 36) rfl ?_); refine goesL_ (some 7) rfl rfl Try.func36 (by kernel_rfl) rfl #[] rfl (by (try simp only [List.map_toArray, List.map_cons, List.map_nil]); first | done | rfl | (simp only [List.length_drop, List.length_take]; rfl)) ?_; (with_reducible refine (decoupagelaw27_awake.calls k  false _ A4.out).mono ?_); rintro e w7 ⟨rfl, hb⟩; refine ⟨_, rfl, ?_⟩; have n0_ := Aside0.mk (below_step (by repeat (first | (with_reducible first | exact HB.out | apply below_alloc | apply pw_below_drewN | apply below_drew1) | exact HB.out)) hb); clear HB; have HB := n0_; clear n0_; (try clear hb); (try clear hb2); (try clear hk); (try clear hi)))
      go_meet
      case rel => exact ⟨_, (true), (by first | rfl | (simp; done) | (simp [*]; done)), H', ⟨by first | omega | exact Nat.le_refl _⟩, ⟨by repeat (first | (with_reducible first | exact HB.out | apply below_alloc | apply pw_below_drewN | apply below_drew1) | exact HB.out)⟩⟩
  case rest =>
    clear HC3
    try clear c1
    try clear p2
    try clear c3
    try clear c5
    obtain ⟨kq, x13_2, rfl, HA, HJ2, HB⟩ := hcut
    cases kq with
    | zero => exact absurd HA.out (by simp [decoupagelaw27_CullTells.j0])
    | succ kj2 =>
      have H := HA.out
      clear HA
      simp only [decoupagelaw27_CullTells.j0] at H
      by_cases c8 : x13_2 = true
      · subst c8
        have H1 : ((decoupagelaw27_awake.f kj2).bind fun t259 => (some t259)) = some r := by rw [if_pos rfl] at H; exact H
        clear H
        have H := H1
        clear H1
        replace H := Option.bind_eq_some_iff.mp H
        obtain ⟨t259, A90, H⟩ := H
        replace H : (some t259) = some r := H
        have A9 := Aside0.mk A90
        clear A90
        obtain rfl := Option.some.inj H
        go_wp2_with (first | ((with_reducible refine gate_callee (f := 36) rfl ?_); refine goesL_ (some 14) rfl rfl Try.func36 (by kernel_rfl) rfl #[] rfl (by (try simp only [List.map_toArray, List.map_cons, List.map_nil]); first | done | rfl | (simp only [List.length_drop, List.length_take]; rfl)) ?_; (with_reducible refine (decoupagelaw27_awake.calls kj2  t259 _ A9.out).mono ?_); rintro e w10 ⟨rfl, hb⟩; refine ⟨_, rfl, ?_⟩; have n0_ := Aside0.mk (below_step (by repeat (first | (with_reducible first | exact HB.out | apply below_alloc | apply pw_below_drewN | apply below_drew1) | exact HB.out)) hb); clear HB; have HB := n0_; clear n0_; (try clear hb); (try clear hb2); (try clear hk); (try clear hi)))
        go_ret
        exact ⟨by first | rfl | (simp [errW_none, errW_some] <;> rfl) | (simp [*, errW_none, errW_some] <;> rfl), by repeat (first | (with_reducible first | exact HB.out | apply below_alloc | apply pw_below_drewN | apply below_drew1) | exact HB.out)⟩
      · replace c8 := Bool.eq_false_iff.mpr c8
        subst c8
        have H1 : (if a1 ≥ 0 then (decoupagelaw27_CullTells.j1 kj2 l0 a1 (decide (a1 < (l0.length : Int)))) else (decoupagelaw27_CullTells.j1 kj2 l0 a1 false)) = some r := by rw [if_neg (show ¬ (false = true) by decide)] at H; exact H
        clear H
        have H := H1
        clear H1
        have HC11 := Aside0.mk H
        clear H
        go_upto_region 3 with (fail)
        go_cut [5] (fun v5 wc => ∃ (kq : Nat) (x5_10 : Bool), v5 = .bool x5_10 ∧ Aside0 (decoupagelaw27_CullTells.j1 kq l0 a1 x5_10 = some r) ∧ Aside0 (kq ≤ kj2) ∧ Aside0 (Below w.heap.size w wc))
        case first =>
          have H := HC11.out
          clear HC11
          by_cases c12 : a1 ≥ 0
          · rw [if_pos c12] at H
            have c12b0 : decide (0 ≤ a1) = true := decide_eq_true c12
            clear c12
            (first | rw [c12b0] | (simp only [i64_w, i32_w]; rw [c12b0]) | skip)
            have H' := Aside0.mk H
            clear H
            go_wp2
            go_meet
            case rel => exact ⟨_, (decide (a1 < (l0.length : Int))), (by first | rfl | (simp; done) | (simp [*]; done)), H', ⟨by have := HJ2.out; first | omega | exact Nat.le_refl _⟩, ⟨by repeat (first | (with_reducible first | exact HB.out | apply below_alloc | apply pw_below_drewN | apply below_drew1) | exact HB.out)⟩⟩
          · rw [if_neg c12] at H
            have c12b0 : decide (0 ≤ a1) = false := decide_eq_false c12
            clear c12
            (first | rw [c12b0] | (simp only [i64_w, i32_w]; rw [c12b0]) | skip)
            have H' := Aside0.mk H
            clear H
            go_wp2
            go_meet
            case rel => exact ⟨_, (false), (by first | rfl | (simp; done) | (simp [*]; done)), H', ⟨by have := HJ2.out; first | omega | exact Nat.le_refl _⟩, ⟨by repeat (first | (with_reducible first | exact HB.out | apply below_alloc | apply pw_below_drewN | apply below_drew1) | exact HB.out)⟩⟩
        case rest =>
          clear HC11
          try clear c1
          try clear p2
          try clear c3
          try clear c5
          try clear c8
          try clear c10
          try clear c12
          try clear c12b0
          try clear p2
          obtain ⟨kq, x5_10, rfl, HA, HJ10, HB⟩ := hcut
          cases kq with
          | zero => exact absurd HA.out (by simp [decoupagelaw27_CullTells.j1])
          | succ kj10 =>
            have H := HA.out
            clear HA
            simp only [decoupagelaw27_CullTells.j1] at H
            have HC13 := Aside0.mk H
            clear H
            go_upto_region 4 with (fail)
            go_cut [6] (fun v6 wc => ∃ (kq : Nat) (x6_12 : Bool), v6 = .bool x6_12 ∧ Aside0 (decoupagelaw27_CullTells.j2 kq l0 a1 x6_12 = some r) ∧ Aside0 (kq ≤ kj10) ∧ Aside0 (Below w.heap.size w wc))
            case first =>
              have H := HC13.out
              clear HC13
              by_cases c14 : x5_10 = true
              · subst c14
                have H1 : ((decoupageref27_Hidden.f kj10 l0 a1).bind fun t260 => (decoupagelaw27_CullTells.j2 kj10 l0 a1 t260)) = some r := by rw [if_pos rfl] at H; exact H
                clear H
                have H := H1
                clear H1
                replace H := Option.bind_eq_some_iff.mp H
                obtain ⟨t260, A150, H⟩ := H
                replace H : (decoupagelaw27_CullTells.j2 kj10 l0 a1 t260) = some r := H
                have A15 := Aside0.mk A150
                clear A150
                have H' := Aside0.mk H
                clear H
                go_wp2_with (first | (go_at_call 37; (with_reducible refine (decoupageref27_Hidden.calls kj10 _ _ l0 a1 t260 _ ?side1 ?side2 A15.out).mono ?_); (case side1 => repeat (first | exact (Kd.C_below HR0.out HB.out) | (with_reducible refine Kd.C_alloc ?_ _) | (with_reducible refine Kd.C_drewN ?_ _) | (with_reducible refine Kd.C_drew ?_))); (case side2 => exact HC0.out); rintro e w16 ⟨rfl, hb⟩; have n0_ := Aside0.mk (below_step (by repeat (first | (with_reducible first | exact HB.out | apply below_alloc | apply pw_below_drewN | apply below_drew1) | exact HB.out)) hb); clear HB; have HB := n0_; clear n0_; (try clear hb); (try clear hb2); (try clear hk); (try clear hi)))
                go_meet
                case rel => exact ⟨_, (t260), (by first | rfl | (simp; done) | (simp [*]; done)), H', ⟨by have := HJ2.out; have := HJ10.out; first | omega | exact Nat.le_refl _⟩, ⟨by repeat (first | (with_reducible first | exact HB.out | apply below_alloc | apply pw_below_drewN | apply below_drew1) | exact HB.out)⟩⟩
              · replace c14 := Bool.eq_false_iff.mpr c14
                subst c14
                have H1 : (decoupagelaw27_CullTells.j2 kj10 l0 a1 false) = some r := by rw [if_neg (show ¬ (false = true) by decide)] at H; exact H
                clear H
                have H := H1
                clear H1
                have H' := Aside0.mk H
                clear H
                go_wp2
                go_meet
                case rel => exact ⟨_, (false), (by first | rfl | (simp; done) | (simp [*]; done)), H', ⟨by have := HJ2.out; have := HJ10.out; first | omega | exact Nat.le_refl _⟩, ⟨by repeat (first | (with_reducible first | exact HB.out | apply below_alloc | apply pw_below_drewN | apply below_drew1) | exact HB.out)⟩⟩
            case rest =>
              clear HC13
              try clear c1
              try clear p2
              try clear c3
              try clear c5
              try clear c8
              try clear c10
              try clear c12
              try clear c12b0
              try clear c14
              try clear p2
              obtain ⟨kq, x6_12, rfl, HA, HJ12, HB⟩ := hcut
              cases kq with
              | zero => exact absurd HA.out (by simp [decoupagelaw27_CullTells.j2])
              | succ kj12 =>
                have H := HA.out
                clear HA
                simp only [decoupagelaw27_CullTells.j2] at H
                replace H := Option.bind_eq_some_iff.mp H
                obtain ⟨t261, A170, H⟩ := H
                replace H : ((decoupageref27_Cull.f kj12 l0).bind fun t264 => ((decoupageref25_Same.f kj12 t261 t264).bind fun t267 => (if t267 = true then ((cull_Hidden.f kj12 l0 a1).bind fun t268 => (some (t268 == x6_12))) else (some false)))) = some r := H
                have A17 := Aside0.mk A170
                clear A170
                replace H := Option.bind_eq_some_iff.mp H
                obtain ⟨t264, A180, H⟩ := H
                replace H : ((decoupageref25_Same.f kj12 t261 t264).bind fun t267 => (if t267 = true then ((cull_Hidden.f kj12 l0 a1).bind fun t268 => (some (t268 == x6_12))) else (some false))) = some r := H
                have A18 := Aside0.mk A180
                clear A180
                replace H := Option.bind_eq_some_iff.mp H
                obtain ⟨t267, A190, H⟩ := H
                replace H : (if t267 = true then ((cull_Hidden.f kj12 l0 a1).bind fun t268 => (some (t268 == x6_12))) else (some false)) = some r := H
                have A19 := Aside0.mk A190
                clear A190
                by_cases c20 : t267 = true
                · subst c20
                  have H1 : ((cull_Hidden.f kj12 l0 a1).bind fun t268 => (some (t268 == x6_12))) = some r := by rw [if_pos rfl] at H; exact H
                  clear H
                  have H := H1
                  clear H1
                  replace H := Option.bind_eq_some_iff.mp H
                  obtain ⟨t268, A210, H⟩ := H
                  replace H : (some (t268 == x6_12)) = some r := H
                  have A21 := Aside0.mk A210
                  clear A210
                  obtain rfl := Option.some.inj H
                  go_wp2_with (first | ((with_reducible refine gate_callee (f := 39) rfl ?_); refine goesL_ (some 30) rfl rfl Try.func39 (by kernel_rfl) rfl #[.slice A0 l0.length c0] rfl (by (try simp only [List.map_toArray, List.map_cons, List.map_nil]); first | done | rfl | (simp only [List.length_drop, List.length_take]; rfl)) ?_; (with_reducible refine (cull_Cull.calls kj12 _ _ l0 t261 _ ?side1 ?side2 A17.out).mono ?_); (case side1 => repeat (first | exact (Kd.C_below HR0.out HB.out) | (with_reducible refine Kd.C_alloc ?_ _) | (with_reducible refine Kd.C_drewN ?_ _) | (with_reducible refine Kd.C_drew ?_))); (case side2 => exact HC0.out); rintro e w22 ⟨v262, rfl, ho0, hb⟩; refine ⟨_, rfl, ?_⟩; have n0_ := Aside0.mk (Kd.R_lower ho0 (below_size (by repeat (first | (with_reducible first | exact HB.out | apply below_alloc | apply pw_below_drewN | apply below_drew1) | exact HB.out)))); have n1_ := Aside0.mk (below_step (by repeat (first | (with_reducible first | exact HB.out | apply below_alloc | apply pw_below_drewN | apply below_drew1) | exact HB.out)) hb); clear HB; have HO263 := n0_; have HB := n1_; clear n0_ n1_; (try clear hb); (try clear hb2); (try clear hk); (try clear hi); (try clear ho0)) | ((with_reducible refine gate_callee (f := 40) rfl ?_); refine goesL_ (some 32) rfl rfl Try.func40 (by kernel_rfl) rfl #[.slice A0 l0.length c0] rfl (by (try simp only [List.map_toArray, List.map_cons, List.map_nil]); first | done | rfl | (simp only [List.length_drop, List.length_take]; rfl)) ?_; (with_reducible refine (decoupageref27_Cull.calls kj12 _ _ l0 t264 _ ?side1 ?side2 A18.out).mono ?_); (case side1 => repeat (first | exact (Kd.C_below HR0.out HB.out) | (with_reducible refine Kd.C_alloc ?_ _) | (with_reducible refine Kd.C_drewN ?_ _) | (with_reducible refine Kd.C_drew ?_))); (case side2 => exact HC0.out); rintro e w23 ⟨v265, rfl, ho0, hb⟩; refine ⟨_, rfl, ?_⟩; have n0_ := Aside0.mk (Kd.R_elder' (by (with_reducible repeat (first | apply Kd.R_alloc | apply Kd.R_drewN | apply Kd.R_drew)); exact HO263.out) (Kd.R_base ho0) hb); have n1_ := Aside0.mk (Kd.R_lower (Kd.R_new' ho0 (Kd.R_lt (by (with_reducible repeat (first | apply Kd.R_alloc | apply Kd.R_drewN | apply Kd.R_drew)); exact HO263.out))) (below_size (by repeat (first | (with_reducible first | exact HB.out | apply below_alloc | apply pw_below_drewN | apply below_drew1) | exact HB.out)))); have n2_ := Aside0.mk (below_step (by repeat (first | (with_reducible first | exact HB.out | apply below_alloc | apply pw_below_drewN | apply below_drew1) | exact HB.out)) hb); clear HO263; clear HB; have HO263 := n0_; have HO266 := n1_; have HB := n2_; clear n0_ n1_ n2_; (try clear hb); (try clear hb2); (try clear hk); (try clear hi); (try clear ho0); obtain ⟨Ao24, co24, eo24⟩ := Kd.R_slice HO263.out; subst eo24; obtain ⟨Ao25, co25, eo25⟩ := Kd.R_slice HO266.out; subst eo25) | ((with_reducible refine gate_callee (f := 38) rfl ?_); refine goesL_ (some 33) rfl rfl Try.func38 (by kernel_rfl) rfl #[.slice Ao24 t261.length co24, .slice Ao25 t264.length co25] rfl (by (try simp only [List.map_toArray, List.map_cons, List.map_nil]); first | done | rfl | (simp only [List.length_drop, List.length_take]; rfl)) ?_; (with_reducible refine (decoupageref25_Same.calls kj12 _ _ t261 _ _ t264 true _ ?side1 ?side2 ?side3 ?side4 A19.out).mono ?_); (case side1 => repeat (first | exact (Kd.R_reads' HO263.out).2.2 | (with_reducible refine Kd.C_alloc ?_ _) | (with_reducible refine Kd.C_drewN ?_ _) | (with_reducible refine Kd.C_drew ?_))); (case side2 => exact (Kd.R_reads' HO263.out).2.1); (case side3 => repeat (first | exact (Kd.R_reads' HO266.out).2.2 | (with_reducible refine Kd.C_alloc ?_ _) | (with_reducible refine Kd.C_drewN ?_ _) | (with_reducible refine Kd.C_drew ?_))); (case side4 => exact (Kd.R_reads' HO266.out).2.1); rintro e w' ⟨rfl, ⟨nd, rfl⟩⟩; refine ⟨_, rfl, ?_⟩) | (go_at_call 41; (with_reducible refine (cull_Hidden.calls kj12 _ _ l0 a1 t268 _ ?side1 ?side2 A21.out).mono ?_); (case side1 => repeat (first | exact (Kd.C_below HR0.out (by repeat (first | (with_reducible first | exact HB.out | apply below_alloc | apply pw_below_drewN | apply below_drew1) | exact HB.out))) | (with_reducible refine Kd.C_alloc ?_ _) | (with_reducible refine Kd.C_drewN ?_ _) | (with_reducible refine Kd.C_drew ?_))); (case side2 => exact HC0.out); rintro e w26 ⟨rfl, hb⟩; have n0_ := Aside0.mk (Kd.R_below (by (with_reducible repeat (first | apply Kd.R_alloc | apply Kd.R_drewN | apply Kd.R_drew)); exact HO263.out) hb); have n1_ := Aside0.mk (Kd.R_below (by (with_reducible repeat (first | apply Kd.R_alloc | apply Kd.R_drewN | apply Kd.R_drew)); exact HO266.out) hb); have n2_ := Aside0.mk (below_step (by repeat (first | (with_reducible first | exact HB.out | apply below_alloc | apply pw_below_drewN | apply below_drew1) | exact HB.out)) hb); clear HO263; clear HO266; clear HB; have HO263 := n0_; have HO266 := n1_; have HB := n2_; clear n0_ n1_ n2_; (try clear hb); (try clear hb2); (try clear hk); (try clear hi)))
                  go_ret
                  exact ⟨by first | rfl | (simp [errW_none, errW_some] <;> rfl) | (simp [*, errW_none, errW_some] <;> rfl), by repeat (first | (with_reducible first | exact HB.out | apply below_alloc | apply pw_below_drewN | apply below_drew1) | exact HB.out)⟩
                · replace c20 := Bool.eq_false_iff.mpr c20
                  subst c20
                  have H1 : (some false) = some r := by rw [if_neg (show ¬ (false = true) by decide)] at H; exact H
                  clear H
                  have H := H1
                  clear H1
                  obtain rfl := Option.some.inj H
                  go_wp2_with (first | ((with_reducible refine gate_callee (f := 39) rfl ?_); refine goesL_ (some 30) rfl rfl Try.func39 (by kernel_rfl) rfl #[.slice A0 l0.length c0] rfl (by (try simp only [List.map_toArray, List.map_cons, List.map_nil]); first | done | rfl | (simp only [List.length_drop, List.length_take]; rfl)) ?_; (with_reducible refine (cull_Cull.calls kj12 _ _ l0 t261 _ ?side1 ?side2 A17.out).mono ?_); (case side1 => repeat (first | exact (Kd.C_below HR0.out HB.out) | (with_reducible refine Kd.C_alloc ?_ _) | (with_reducible refine Kd.C_drewN ?_ _) | (with_reducible refine Kd.C_drew ?_))); (case side2 => exact HC0.out); rintro e w27 ⟨v262, rfl, ho0, hb⟩; refine ⟨_, rfl, ?_⟩; have n0_ := Aside0.mk (Kd.R_lower ho0 (below_size (by repeat (first | (with_reducible first | exact HB.out | apply below_alloc | apply pw_below_drewN | apply below_drew1) | exact HB.out)))); have n1_ := Aside0.mk (below_step (by repeat (first | (with_reducible first | exact HB.out | apply below_alloc | apply pw_below_drewN | apply below_drew1) | exact HB.out)) hb); clear HB; have HO263 := n0_; have HB := n1_; clear n0_ n1_; (try clear hb); (try clear hb2); (try clear hk); (try clear hi); (try clear ho0)) | ((with_reducible refine gate_callee (f := 40) rfl ?_); refine goesL_ (some 32) rfl rfl Try.func40 (by kernel_rfl) rfl #[.slice A0 l0.length c0] rfl (by (try simp only [List.map_toArray, List.map_cons, List.map_nil]); first | done | rfl | (simp only [List.length_drop, List.length_take]; rfl)) ?_; (with_reducible refine (decoupageref27_Cull.calls kj12 _ _ l0 t264 _ ?side1 ?side2 A18.out).mono ?_); (case side1 => repeat (first | exact (Kd.C_below HR0.out HB.out) | (with_reducible refine Kd.C_alloc ?_ _) | (with_reducible refine Kd.C_drewN ?_ _) | (with_reducible refine Kd.C_drew ?_))); (case side2 => exact HC0.out); rintro e w28 ⟨v265, rfl, ho0, hb⟩; refine ⟨_, rfl, ?_⟩; have n0_ := Aside0.mk (Kd.R_elder' (by (with_reducible repeat (first | apply Kd.R_alloc | apply Kd.R_drewN | apply Kd.R_drew)); exact HO263.out) (Kd.R_base ho0) hb); have n1_ := Aside0.mk (Kd.R_lower (Kd.R_new' ho0 (Kd.R_lt (by (with_reducible repeat (first | apply Kd.R_alloc | apply Kd.R_drewN | apply Kd.R_drew)); exact HO263.out))) (below_size (by repeat (first | (with_reducible first | exact HB.out | apply below_alloc | apply pw_below_drewN | apply below_drew1) | exact HB.out)))); have n2_ := Aside0.mk (below_step (by repeat (first | (with_reducible first | exact HB.out | apply below_alloc | apply pw_below_drewN | apply below_drew1) | exact HB.out)) hb); clear HO263; clear HB; have HO263 := n0_; have HO266 := n1_; have HB := n2_; clear n0_ n1_ n2_; (try clear hb); (try clear hb2); (try clear hk); (try clear hi); (try clear ho0); obtain ⟨Ao29, co29, eo29⟩ := Kd.R_slice HO263.out; subst eo29; obtain ⟨Ao30, co30, eo30⟩ := Kd.R_slice HO266.out; subst eo30) | ((with_reducible refine gate_callee (f := 38) rfl ?_); refine goesL_ (some 33) rfl rfl Try.func38 (by kernel_rfl) rfl #[.slice Ao29 t261.length co29, .slice Ao30 t264.length co30] rfl (by (try simp only [List.map_toArray, List.map_cons, List.map_nil]); first | done | rfl | (simp only [List.length_drop, List.length_take]; rfl)) ?_; (with_reducible refine (decoupageref25_Same.calls kj12 _ _ t261 _ _ t264 false _ ?side1 ?side2 ?side3 ?side4 A19.out).mono ?_); (case side1 => repeat (first | exact (Kd.R_reads' HO263.out).2.2 | (with_reducible refine Kd.C_alloc ?_ _) | (with_reducible refine Kd.C_drewN ?_ _) | (with_reducible refine Kd.C_drew ?_))); (case side2 => exact (Kd.R_reads' HO263.out).2.1); (case side3 => repeat (first | exact (Kd.R_reads' HO266.out).2.2 | (with_reducible refine Kd.C_alloc ?_ _) | (with_reducible refine Kd.C_drewN ?_ _) | (with_reducible refine Kd.C_drew ?_))); (case side4 => exact (Kd.R_reads' HO266.out).2.1); rintro e w' ⟨rfl, ⟨nd, rfl⟩⟩; refine ⟨_, rfl, ?_⟩))
                  go_ret
                  exact ⟨by first | rfl | (simp [errW_none, errW_some] <;> rfl) | (simp [*, errW_none, errW_some] <;> rfl), by repeat (first | (with_reducible first | exact HB.out | apply below_alloc | apply pw_below_drewN | apply below_drew1) | exact HB.out)⟩

end Go.Proofs.Ytipcledgblodjaa.PCullTells
