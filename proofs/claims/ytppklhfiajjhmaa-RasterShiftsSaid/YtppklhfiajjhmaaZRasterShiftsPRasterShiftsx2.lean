/- What is proved: texts of the law RasterShifts, written by program, anew in fewer bytes. Conditions: none but those in each statement. -/
import Derived.Test.YtppklhfiajjhmaaZRasterShiftsPRasterShiftsx0
import Derived.Test.YtppklhfiajjhmaaZRasterShiftsPRasterShiftsx1
namespace Go.Proofs.Ytppklhfiajjhmaa.PRasterShifts
open Go.RowKit Go.Proofs.YtppklhfiajjhmaaW.PrintWords Go.Proofs.YtppklhfiajjhmaaW.PrintLast Go.Proofs.YtppklhfiajjhmaaW.PrintMore
attribute [local go_sem] max2_int min2_int max_two min_two max_three min_three max_four min_four   -- for this text's walks alone
set_option linter.unusedVariables false
set_option linter.unusedSimpArgs false

/-! ### raster_Runs: function 30 -/
def raster_Runs.l0 : Nat → List (S39) → Int → List (S56) → List Int → List Int → Int → Int → Option ((List (S56)))
 | 0, _, _, _, _, _, _, _ => none
 | k + 1, x0, x1, x9, x10, x27, x28, x29 => if x29 < x28 then (if 0 ≤ x29 then (if x29 < (x27.length : Int) then ((owner_Of.f k x0 (rd x27 x29) x1).bind fun bt116 => (if bt116.2 = true then (if (wrap64 ((x9.length : Int) - 1)) ≥ 0 then (if 0 ≤ (wrap64 ((x9.length : Int) - 1)) then (if (wrap64 ((x9.length : Int) - 1)) < (x9.length : Int) then (if ((rd_T56 x9 (wrap64 ((x9.length : Int) - 1))).f2) = bt116.1 then (if ((rd_T56 x9 (wrap64 ((x9.length : Int) - 1))).f1) = (rd x27 x29) then (if 0 ≤ (wrap64 (x29 + 1)) then (if (wrap64 (x29 + 1)) < (x10.length : Int) then (raster_Runs.l0 k x0 x1 (x9.set ((wrap64 ((x9.length : Int) - 1)) : Int).toNat (⟨(rd_T56 x9 (wrap64 ((x9.length : Int) - 1))).f0, rd x10 (wrap64 (x29 + 1)), (rd_T56 x9 (wrap64 ((x9.length : Int) - 1))).f2⟩ : S56)) x10 x27 x28 (wrap64 (x29 + 1))) else (none)) else (none)) else (if 0 ≤ (wrap64 (x29 + 1)) then (if (wrap64 (x29 + 1)) < (x10.length : Int) then (if x9.length < 5864062014805 then (raster_Runs.l0 k x0 x1 (x9 ++ [(⟨rd x27 x29, rd x10 (wrap64 (x29 + 1)), bt116.1⟩ : S56)]) x10 x27 x28 (wrap64 (x29 + 1))) else (none)) else (none)) else (none))) else (if 0 ≤ (wrap64 (x29 + 1)) then (if (wrap64 (x29 + 1)) < (x10.length : Int) then (if x9.length < 5864062014805 then (raster_Runs.l0 k x0 x1 (x9 ++ [(⟨rd x27 x29, rd x10 (wrap64 (x29 + 1)), bt116.1⟩ : S56)]) x10 x27 x28 (wrap64 (x29 + 1))) else (none)) else (none)) else (none))) else (none)) else (none)) else (if 0 ≤ (wrap64 (x29 + 1)) then (if (wrap64 (x29 + 1)) < (x10.length : Int) then (if x9.length < 5864062014805 then (raster_Runs.l0 k x0 x1 (x9 ++ [(⟨rd x27 x29, rd x10 (wrap64 (x29 + 1)), bt116.1⟩ : S56)]) x10 x27 x28 (wrap64 (x29 + 1))) else (none)) else (none)) else (none))) else (raster_Runs.l0 k x0 x1 x9 x10 x27 x28 (wrap64 (x29 + 1))))) else (none)) else (none)) else (some x9)
def raster_Runs.f (k : Nat) (l0 : List (S39)) (a1 : Int) (a2 : Int) (a3 : Int) : Option ((List (S56))) := if a2 ≥ a3 then (some ([] : List (S56))) else ((raster_edges.f l0 a2 a3).bind fun t108 => (if 0 ≤ (wrap64 ((t108.length : Int) - 1)) then (if (wrap64 ((t108.length : Int) - 1)) ≤ (t108.length : Int) then ((some (t108.take ((wrap64 ((t108.length : Int) - 1)) : Int).toNat : List Int)).bind fun y111 => (raster_Runs.l0 k l0 a1 ([] : List (S56)) t108 y111 (y111.length : Int) 0)) else (none)) else (none)))
theorem raster_Runs.mono_l : ∀ k, (∀ y0 y1 y2 y3 y4 y5 y6, LeO (raster_Runs.l0 k y0 y1 y2 y3 y4 y5 y6) (raster_Runs.l0 (k + 1) y0 y1 y2 y3 y4 y5 y6))
 | 0 => fun _ _ _ _ _ _ _ r h => by simp [raster_Runs.l0] at h
 | k + 1 => by
  have ih0 := raster_Runs.mono_l k
  ·intro y0 y1 y2 y3 y4 y5 y6
   unfold raster_Runs.l0
   repeat' first
   | (with_reducible exact ih0 _ _ _ _ _ _ _)
   | (with_reducible exact owner_Of.mono _ _ _ _)
   | (with_reducible exact LeO.refl _)
   | (with_reducible exact LeO.none _)
   | (with_reducible refine LeO.ite ?_ ?_)
   | (with_reducible refine LeO.bind ?_ (fun _ => ?_))
   | exact ih0 _ _ _ _ _ _ _
   | exact owner_Of.mono _ _ _ _
   | exact LeO.none _
   | refine LeO.ite ?_ ?_
   | refine LeO.bind ?_ (fun _ => ?_)
theorem raster_Runs.mono : ∀ a0 a1 a2 a3 k, LeO (raster_Runs.f k a0 a1 a2 a3) (raster_Runs.f (k + 1) a0 a1 a2 a3) := by
 intro a0 a1 a2 a3 k
 have ih0 := raster_Runs.mono_l k
 unfold raster_Runs.f
 repeat' first
   | (with_reducible exact ih0 _ _ _ _ _ _ _)
   | (with_reducible exact owner_Of.mono _ _ _ _)
   | (with_reducible exact LeO.refl _)
   | (with_reducible exact LeO.none _)
   | (with_reducible refine LeO.ite ?_ ?_)
   | (with_reducible refine LeO.bind ?_ (fun _ => ?_))
   | exact ih0 _ _ _ _ _ _ _
   | exact owner_Of.mono _ _ _ _
   | exact LeO.none _
   | refine LeO.ite ?_ ?_
   | refine LeO.bind ?_ (fun _ => ?_)
theorem rd_cut {xs ys : List Int} {n : Nat} (e : ys = xs.take n) {i : Int} (h0 : 0 ≤ i) (h1 : i < (ys.length : Int)) : i < (xs.length : Int) ∧ rd xs i = rd ys i := by
 subst e
 have h2 : i.toNat < (xs.take n).length := by omega
 refine ⟨by rw [List.length_take] at h1; omega, ?_⟩
 unfold rd
 rw [List.getD_eq_getElem?_getD, List.getD_eq_getElem?_getD, List.getElem?_take_of_lt (by rw [List.length_take] at h2; omega)]
set_option maxHeartbeats 8000000 in
set_option maxRecDepth 100000 in
theorem raster_Runs.calls (k : Nat) (A0 : Option Addr) (c0 : Nat) (l0 : List (S39)) (a1 : Int) (a2 : Int) (a3 : Int) (r : List (S56)) (w : World) (hr0 : Kd.C k39 w A0 l0.length l0) (hc0 : l0.length ≤ c0) (h : raster_Runs.f k l0 a1 a2 a3 = some r) :
  Calls Try.prog 30 #[.slice A0 l0.length c0, .int .i64 a1, .int .i64 a2, .int .i64 a3] w fun e w' => ∃ v0_ : Value, e = .returned (v0_) ∧ Kd.R k56 56 w' w.heap.size (fun _ => True) v0_ r ∧ Below w.heap.size w w' := by
 have hu56 := Try.underlying56
 have HR0 := Aside0.mk hr0
 have HC0 := Aside0.mk hc0
 clear hr0 hc0
 have HB := Aside0.mk (Below.refl w.heap.size w)
 have H : (if a2 ≥ a3 then (some ([] : List (S56))) else ((raster_edges.f l0 a2 a3).bind fun t108 => (if 0 ≤ (wrap64 ((t108.length : Int) - 1)) then (if (wrap64 ((t108.length : Int) - 1)) ≤ (t108.length : Int) then ((some (t108.take ((wrap64 ((t108.length : Int) - 1)) : Int).toNat : List Int)).bind fun y111 => (raster_Runs.l0 k l0 a1 ([] : List (S56)) t108 y111 (y111.length : Int) 0)) else (none)) else (none)))) = some r := h
 clear h
 by_cases c5 : a2 ≥ a3
 ·rw [if_pos c5] at H
  have c5b0 : decide (a3 ≤ a2) = true := decide_eq_true c5
  clear c5
  obtain rfl := Option.some.inj H
  go_enter Try.func30, Try.ntmps30
  go_wp2
  go_ret
  exact ⟨_, by first | rfl | (simp [errW_none, errW_some] <;> rfl) | (simp [*, errW_none, errW_some] <;> rfl), by first | exact Kd.R_nil _ _ _ _ _ | exact Kd.N_nil _ _ _ _ _ | exact Kd.V_nil _ _ _ _ _ | exact Kd.Q_nil _ _ _ _ _ | exact Kd.S_nil _ _ _ _ _, by repeat (first | (with_reducible first | exact HB.out | apply below_alloc | apply pw_below_drewN | apply below_drew1) | exact HB.out)⟩
 ·rw [if_neg c5] at H
  have c5b0 : decide (a3 ≤ a2) = false := decide_eq_false c5
  clear c5
  replace H := Option.bind_eq_some_iff.mp H
  obtain ⟨t108, A60, H⟩ := H
  replace H : (if 0 ≤ (wrap64 ((t108.length : Int) - 1)) then (if (wrap64 ((t108.length : Int) - 1)) ≤ (t108.length : Int) then ((some (t108.take ((wrap64 ((t108.length : Int) - 1)) : Int).toNat : List Int)).bind fun y111 => (raster_Runs.l0 k l0 a1 ([] : List (S56)) t108 y111 (y111.length : Int) 0)) else (none)) else (none)) = some r := H
  have A6 := Aside0.mk A60
  clear A60
  obtain ⟨ji7, hji7⟩ : ∃ j_ : Int, (wrap64 ((t108.length : Int) - 1)) = j_ := ⟨_, rfl⟩
  replace H : (if 0 ≤ (ji7) then (if (ji7) ≤ (t108.length : Int) then ((some (t108.take ((ji7) : Int).toNat : List Int)).bind fun y111 => (raster_Runs.l0 k l0 a1 ([] : List (S56)) t108 y111 (y111.length : Int) 0)) else (none)) else (none)) = some r := by first | (rw [hji7] at H; exact H) | (simp only [hji7] at H ⊢; exact H)
  (try rw [hji7] at A6)
  have hji7w : (IntKind.i64.wrap ((t108.length : Int) - 1)) = ji7 := (i64_w _).trans hji7
  by_cases c8 : 0 ≤ (ji7)
  ·rw [if_pos c8] at H
   have c8b0 := eq_true c8
   have c8b1 : decide (0 ≤ (ji7)) = true := decide_eq_true c8
   clear c8
   by_cases c9 : (ji7) ≤ (t108.length : Int)
   ·rw [if_pos c9] at H
    have c9b0 := eq_true c9
    have c9b1 : decide ((ji7) ≤ (t108.length : Int)) = true := decide_eq_true c9
    clear c9
    obtain ⟨y111, hy111⟩ : ∃ y_ : List Int, y_ = (t108.take ((ji7) : Int).toNat) := ⟨_, rfl⟩
    replace H : (raster_Runs.l0 k l0 a1 ([] : List (S56)) t108 y111 (y111.length : Int) 0) = some r := by first | (rw [hy111]; with_reducible exact H) | (have H2_ := (Option.bind_some _ _).symm.trans H; rw [hy111]; with_reducible exact H2_) | (have H2_ := (Option.bind_some _ _).symm.trans H; with_reducible exact H2_) | with_reducible exact H | (rw [hy111]; exact H) | exact H
    have Ny111 := Aside0.mk hy111
    clear hy111
    have H' := Aside0.mk H
    clear H
    go_enter Try.func30, Try.ntmps30
    go_wp2_with (first | ((with_reducible refine gate_callee (f := 50) rfl ?_); refine goesL_ (some 22) rfl rfl Try.func50 (by kernel_rfl) rfl #[.slice A0 l0.length c0, .int .i64 a2, .int .i64 a3] rfl (by (try simp only [List.map_toArray, List.map_cons, List.map_nil]); first | done | rfl | (simp only [List.length_drop, List.length_take]; rfl)) ?_; (with_reducible refine (raster_edges.calls _ _ l0 a2 a3 t108 _ ?side1 ?side2 A6.out).mono ?_); (case side1 => repeat (first | exact HR0.out | (with_reducible refine Kd.C_alloc ?_ _) | (with_reducible refine Kd.C_drewN ?_ _) | (with_reducible refine Kd.C_drew ?_))); (case side2 => exact HC0.out); rintro e w10 ⟨v109, rfl, ho0, hb⟩; refine ⟨_, rfl, ?_⟩; have n0_ := Aside0.mk (Kd.R_lower ho0 (below_size (by repeat (first | (with_reducible first | exact HB.out | apply below_alloc | apply pw_below_drewN | apply below_drew1) | exact HB.out)))); have n1_ := Aside0.mk (below_step (by repeat (first | (with_reducible first | exact HB.out | apply below_alloc | apply pw_below_drewN | apply below_drew1) | exact HB.out)) hb); clear HB; have HO110 := n0_; have HB := n1_; clear n0_ n1_; (try clear hb); (try clear hb2); (try clear hk); (try clear hi); (try clear ho0); obtain ⟨Ao11, co11, eo11⟩ := Kd.R_slice HO110.out; subst eo11; have q12 : ((ji7) : Int) ≤ ((t108.length : Int) : Int) := of_decide_eq_true (by first | (with_reducible assumption) | assumption); obtain ⟨i012, hi012, _, hsz12, _⟩ := info_parts info2; have hroom12 : t108.length ≤ co11 := (Kd.R_reads' HO110.out).2.1; have hC12 : Kd.C (Kd.int .i64) _ Ao11 t108.length t108 := (Kd.R_reads' HO110.out).2.2; have hcut12 := cut_to (P := Try.prog) 47 2 .i64 Try.underlying47 hi012 Ao11 t108.length co11 (ji7) (of_decide_eq_true (by first | (with_reducible assumption) | assumption)) q12 hroom12; have hr12 := Kd.C_take (m := ((ji7) : Int).toNat) hC12 (by omega); have hy12 : y111.length = ((ji7) : Int).toNat := (by rw [Ny111.out, List.length_take]; omega); rw [← Ny111.out] at hr12; rw [← hy12] at hcut12; have HR114 := Aside0.mk hr12; have HC114 := Aside0.mk (show y111.length ≤ co11 from by omega); clear hr12 hC12 hroom12 hi012 hsz12; have KY12 := Aside0.mk hy12; clear hy12; have KL12 := Aside0.mk (show ((ji7) : Int).toNat ≤ t108.length from by omega); replace q12 := eq_true q12))
    go_loopg [9, 29] k (fun kq v9 v29 w' => ∃ (x9_1 : List (S56)) (x29_1 : Int), v29 = .int .i64 x29_1 ∧ Aside0 (raster_Runs.l0 kq l0 a1 x9_1 t108 y111 (y111.length : Int) x29_1 = some r) ∧ Aside0 (kq ≤ k) ∧ Aside0 (Kd.R k56 56 w' w.heap.size (fun _ => True) v9 x9_1) ∧ Aside0 (Kd.R (Kd.int .i64) 2 w' w.heap.size (fun _ => True) (.slice Ao11 t108.length co11) t108) ∧ Aside0 (Below w.heap.size w w'))
    case atStart => exact ⟨(([] : List (S56))), (0), (by first | rfl | (simp; done) | (simp [*]; done)), H', ⟨Nat.le_refl _⟩, ⟨by first | exact Kd.R_nil _ _ _ _ _ | exact Kd.N_nil _ _ _ _ _ | exact Kd.V_nil _ _ _ _ _ | exact Kd.Q_nil _ _ _ _ _ | exact Kd.S_nil _ _ _ _ _⟩, ⟨by (with_reducible repeat (first | apply Kd.R_alloc | apply Kd.R_drewN | apply Kd.R_drew)); exact HO110.out⟩, ⟨by repeat (first | (with_reducible first | exact HB.out | apply below_alloc | apply pw_below_drewN | apply below_drew1) | exact HB.out)⟩⟩
    case round =>
     clear H'
     try clear q1
     try clear p2
     try clear c3
     try clear c5
     try clear c5b0
     try clear p6
     try clear c8
     try clear c8b0
     try clear c8b1
     try clear c9
     try clear c9b0
     try clear c9b1
     try clear q12
     try clear q12
     obtain ⟨x9_1, x29_1, rfl, HA, HK1, HO_9, HO_10, HB⟩ := hrel
     cases gk with
     | zero => exact absurd HA.out (by simp [raster_Runs.l0])
     | succ k1 =>
      have H := HA.out
      clear HA
      simp only [raster_Runs.l0] at H
      by_cases c13 : x29_1 < (y111.length : Int)
      ·rw [if_pos c13] at H
       have c13b0 : decide (x29_1 < (y111.length : Int)) = true := decide_eq_true c13
       clear c13
       by_cases c14 : 0 ≤ x29_1
       ·rw [if_pos c14] at H
        have c14b0 : decide (0 ≤ x29_1) = true := decide_eq_true c14
        clear c14
        by_cases c15 : x29_1 < (y111.length : Int)
        ·rw [if_pos c15] at H
         have c15b0 : decide (x29_1 < (y111.length : Int)) = true := decide_eq_true c15
         clear c15
         replace H := Option.bind_eq_some_iff.mp H
         obtain ⟨⟨t116, t117⟩, A160, H⟩ := H
         replace H : (if t117 = true then (if (wrap64 ((x9_1.length : Int) - 1)) ≥ 0 then (if 0 ≤ (wrap64 ((x9_1.length : Int) - 1)) then (if (wrap64 ((x9_1.length : Int) - 1)) < (x9_1.length : Int) then (if ((rd_T56 x9_1 (wrap64 ((x9_1.length : Int) - 1))).f2) = t116 then (if ((rd_T56 x9_1 (wrap64 ((x9_1.length : Int) - 1))).f1) = (rd y111 x29_1) then (if 0 ≤ (wrap64 (x29_1 + 1)) then (if (wrap64 (x29_1 + 1)) < (t108.length : Int) then (raster_Runs.l0 k1 l0 a1 (x9_1.set ((wrap64 ((x9_1.length : Int) - 1)) : Int).toNat (⟨(rd_T56 x9_1 (wrap64 ((x9_1.length : Int) - 1))).f0, rd t108 (wrap64 (x29_1 + 1)), (rd_T56 x9_1 (wrap64 ((x9_1.length : Int) - 1))).f2⟩ : S56)) t108 y111 (y111.length : Int) (wrap64 (x29_1 + 1))) else (none)) else (none)) else (if 0 ≤ (wrap64 (x29_1 + 1)) then (if (wrap64 (x29_1 + 1)) < (t108.length : Int) then (if x9_1.length < 5864062014805 then (raster_Runs.l0 k1 l0 a1 (x9_1 ++ [(⟨rd y111 x29_1, rd t108 (wrap64 (x29_1 + 1)), t116⟩ : S56)]) t108 y111 (y111.length : Int) (wrap64 (x29_1 + 1))) else (none)) else (none)) else (none))) else (if 0 ≤ (wrap64 (x29_1 + 1)) then (if (wrap64 (x29_1 + 1)) < (t108.length : Int) then (if x9_1.length < 5864062014805 then (raster_Runs.l0 k1 l0 a1 (x9_1 ++ [(⟨rd y111 x29_1, rd t108 (wrap64 (x29_1 + 1)), t116⟩ : S56)]) t108 y111 (y111.length : Int) (wrap64 (x29_1 + 1))) else (none)) else (none)) else (none))) else (none)) else (none)) else (if 0 ≤ (wrap64 (x29_1 + 1)) then (if (wrap64 (x29_1 + 1)) < (t108.length : Int) then (if x9_1.length < 5864062014805 then (raster_Runs.l0 k1 l0 a1 (x9_1 ++ [(⟨rd y111 x29_1, rd t108 (wrap64 (x29_1 + 1)), t116⟩ : S56)]) t108 y111 (y111.length : Int) (wrap64 (x29_1 + 1))) else (none)) else (none)) else (none))) else (raster_Runs.l0 k1 l0 a1 x9_1 t108 y111 (y111.length : Int) (wrap64 (x29_1 + 1)))) = some r := H
         have A16 := Aside0.mk A160
         clear A160
         by_cases c17 : t117 = true
         ·subst c17
          have H1 : (if (wrap64 ((x9_1.length : Int) - 1)) ≥ 0 then (if 0 ≤ (wrap64 ((x9_1.length : Int) - 1)) then (if (wrap64 ((x9_1.length : Int) - 1)) < (x9_1.length : Int) then (if ((rd_T56 x9_1 (wrap64 ((x9_1.length : Int) - 1))).f2) = t116 then (if ((rd_T56 x9_1 (wrap64 ((x9_1.length : Int) - 1))).f1) = (rd y111 x29_1) then (if 0 ≤ (wrap64 (x29_1 + 1)) then (if (wrap64 (x29_1 + 1)) < (t108.length : Int) then (raster_Runs.l0 k1 l0 a1 (x9_1.set ((wrap64 ((x9_1.length : Int) - 1)) : Int).toNat (⟨(rd_T56 x9_1 (wrap64 ((x9_1.length : Int) - 1))).f0, rd t108 (wrap64 (x29_1 + 1)), (rd_T56 x9_1 (wrap64 ((x9_1.length : Int) - 1))).f2⟩ : S56)) t108 y111 (y111.length : Int) (wrap64 (x29_1 + 1))) else (none)) else (none)) else (if 0 ≤ (wrap64 (x29_1 + 1)) then (if (wrap64 (x29_1 + 1)) < (t108.length : Int) then (if x9_1.length < 5864062014805 then (raster_Runs.l0 k1 l0 a1 (x9_1 ++ [(⟨rd y111 x29_1, rd t108 (wrap64 (x29_1 + 1)), t116⟩ : S56)]) t108 y111 (y111.length : Int) (wrap64 (x29_1 + 1))) else (none)) else (none)) else (none))) else (if 0 ≤ (wrap64 (x29_1 + 1)) then (if (wrap64 (x29_1 + 1)) < (t108.length : Int) then (if x9_1.length < 5864062014805 then (raster_Runs.l0 k1 l0 a1 (x9_1 ++ [(⟨rd y111 x29_1, rd t108 (wrap64 (x29_1 + 1)), t116⟩ : S56)]) t108 y111 (y111.length : Int) (wrap64 (x29_1 + 1))) else (none)) else (none)) else (none))) else (none)) else (none)) else (if 0 ≤ (wrap64 (x29_1 + 1)) then (if (wrap64 (x29_1 + 1)) < (t108.length : Int) then (if x9_1.length < 5864062014805 then (raster_Runs.l0 k1 l0 a1 (x9_1 ++ [(⟨rd y111 x29_1, rd t108 (wrap64 (x29_1 + 1)), t116⟩ : S56)]) t108 y111 (y111.length : Int) (wrap64 (x29_1 + 1))) else (none)) else (none)) else (none))) = some r := by rw [if_pos rfl] at H; exact H
          clear H
          have H := H1
          clear H1
          by_cases c18 : (wrap64 ((x9_1.length : Int) - 1)) ≥ 0
          ·rw [if_pos c18] at H
           have c18b0 : decide (0 ≤ (wrap64 ((x9_1.length : Int) - 1))) = true := decide_eq_true c18
           clear c18
           obtain ⟨ji19, hji19⟩ : ∃ j_ : Int, (wrap64 ((x9_1.length : Int) - 1)) = j_ := ⟨_, rfl⟩
           replace H : (if 0 ≤ (ji19) then (if (ji19) < (x9_1.length : Int) then (if ((rd_T56 x9_1 (ji19)).f2) = t116 then (if ((rd_T56 x9_1 (ji19)).f1) = (rd y111 x29_1) then (if 0 ≤ (wrap64 (x29_1 + 1)) then (if (wrap64 (x29_1 + 1)) < (t108.length : Int) then (raster_Runs.l0 k1 l0 a1 (x9_1.set ((ji19) : Int).toNat (⟨(rd_T56 x9_1 (ji19)).f0, rd t108 (wrap64 (x29_1 + 1)), (rd_T56 x9_1 (ji19)).f2⟩ : S56)) t108 y111 (y111.length : Int) (wrap64 (x29_1 + 1))) else (none)) else (none)) else (if 0 ≤ (wrap64 (x29_1 + 1)) then (if (wrap64 (x29_1 + 1)) < (t108.length : Int) then (if x9_1.length < 5864062014805 then (raster_Runs.l0 k1 l0 a1 (x9_1 ++ [(⟨rd y111 x29_1, rd t108 (wrap64 (x29_1 + 1)), t116⟩ : S56)]) t108 y111 (y111.length : Int) (wrap64 (x29_1 + 1))) else (none)) else (none)) else (none))) else (if 0 ≤ (wrap64 (x29_1 + 1)) then (if (wrap64 (x29_1 + 1)) < (t108.length : Int) then (if x9_1.length < 5864062014805 then (raster_Runs.l0 k1 l0 a1 (x9_1 ++ [(⟨rd y111 x29_1, rd t108 (wrap64 (x29_1 + 1)), t116⟩ : S56)]) t108 y111 (y111.length : Int) (wrap64 (x29_1 + 1))) else (none)) else (none)) else (none))) else (none)) else (none)) = some r := by first | (rw [hji19] at H; exact H) | (simp only [hji19] at H ⊢; exact H)
           (try rw [hji19] at c18b0)
           (try rw [hji19] at A16)
           have hji19w : (IntKind.i64.wrap ((x9_1.length : Int) - 1)) = ji19 := (i64_w _).trans hji19
           by_cases c20 : 0 ≤ (ji19)
           ·rw [if_pos c20] at H
            have c20b0 : decide (0 ≤ (ji19)) = true := decide_eq_true c20
            clear c20
            by_cases c21 : (ji19) < (x9_1.length : Int)
            ·rw [if_pos c21] at H
             have c21b0 : decide ((ji19) < (x9_1.length : Int)) = true := decide_eq_true c21
             clear c21
             by_cases c22 : ((rd_T56 x9_1 (ji19)).f2) = t116
             ·rw [if_pos c22] at H
              have c22b0 : (((rd_T56 x9_1 (ji19)).f2) == t116) = true := beq_iff_eq.mpr c22
              have c22b1 : (((rd_T56 x9_1 (ji19)).f2) != t116) = false := bne_eq_false_iff_eq.mpr c22
              clear c22
              by_cases c23 : ((rd_T56 x9_1 (ji19)).f1) = (rd y111 x29_1)
              ·rw [if_pos c23] at H
               have c23b0 : (((rd_T56 x9_1 (ji19)).f1) == (rd y111 x29_1)) = true := beq_iff_eq.mpr c23
               have c23b1 : (((rd_T56 x9_1 (ji19)).f1) != (rd y111 x29_1)) = false := bne_eq_false_iff_eq.mpr c23
               clear c23
               obtain ⟨ji24, hji24⟩ : ∃ j_ : Int, (wrap64 (x29_1 + 1)) = j_ := ⟨_, rfl⟩
               replace H : (if 0 ≤ (ji24) then (if (ji24) < (t108.length : Int) then (raster_Runs.l0 k1 l0 a1 (x9_1.set ((ji19) : Int).toNat (⟨(rd_T56 x9_1 (ji19)).f0, rd t108 (ji24), (rd_T56 x9_1 (ji19)).f2⟩ : S56)) t108 y111 (y111.length : Int) ji24) else (none)) else (none)) = some r := by first | (rw [hji24] at H; exact H) | (simp only [hji24] at H ⊢; exact H)
               (try rw [hji24] at A16)
               have hji24w : (IntKind.i64.wrap (x29_1 + 1)) = ji24 := (i64_w _).trans hji24
               by_cases c25 : 0 ≤ (ji24)
               ·rw [if_pos c25] at H
                have c25b0 : decide (0 ≤ (ji24)) = true := decide_eq_true c25
                clear c25
                by_cases c26 : (ji24) < (t108.length : Int)
                ·rw [if_pos c26] at H
                 have c26b0 : decide ((ji24) < (t108.length : Int)) = true := decide_eq_true c26
                 clear c26
                 obtain ⟨y121, hy121⟩ : ∃ y_ : List (S56), y_ = (x9_1.set ((ji19) : Int).toNat (⟨(rd_T56 x9_1 (ji19)).f0, rd t108 (ji24), (rd_T56 x9_1 (ji19)).f2⟩ : S56)) := ⟨_, rfl⟩
                 replace H : (raster_Runs.l0 k1 l0 a1 y121 t108 y111 (y111.length : Int) ji24) = some r := by first | (rw [hy121]; with_reducible exact H) | (have H2_ := (Option.bind_some _ _).symm.trans H; rw [hy121]; with_reducible exact H2_) | (have H2_ := (Option.bind_some _ _).symm.trans H; with_reducible exact H2_) | with_reducible exact H | (rw [hy121]; exact H) | exact H
                 have Ny121 := Aside0.mk hy121
                 clear hy121
                 have H' := Aside0.mk H
                 clear H
                 have p115 : 0 ≤ (x29_1 : Int) := of_decide_eq_true (by first | (with_reducible assumption) | assumption)
                 have q115 : x29_1 < (y111.length : Int) := of_decide_eq_true (by first | (with_reducible assumption) | assumption)
                 have q115c := rd_cut Ny111.out p115 q115
                 obtain ⟨ad115, e115, hx115_0⟩ := Kd.at_int (Kd.R_reads' HO_10.out).2.2 x29_1 p115 q115c.1
                 cases e115
                 rw [q115c.2] at hx115_0
                 replace p115 := eq_true p115
                 replace q115 := eq_true q115
                 go_wp2_with (first | ((with_reducible refine gate_callee (f := 51) rfl ?_); refine goesL_ (some 38) rfl rfl Try.func51 (by kernel_rfl) rfl #[.slice A0 l0.length c0, .int .i64 (rd y111 x29_1), .int .i64 a1] rfl (by (try simp only [List.map_toArray, List.map_cons, List.map_nil]); first | done | rfl | (simp only [List.length_drop, List.length_take]; rfl)) ?_; (with_reducible refine (owner_Of.calls k1 _ _ l0 (rd y111 x29_1) a1 t116 true _ ?side1 ?side2 A16.out).mono ?_); (case side1 => repeat (first | exact (Kd.C_below HR0.out HB.out) | (with_reducible refine Kd.C_alloc ?_ _) | (with_reducible refine Kd.C_drewN ?_ _) | (with_reducible refine Kd.C_drew ?_))); (case side2 => exact HC0.out); rintro e w28 ⟨rfl, hb⟩; refine ⟨_, rfl, ?_⟩; have n0_ := Aside0.mk (Kd.R_below (by (with_reducible repeat (first | apply Kd.R_alloc | apply Kd.R_drewN | apply Kd.R_drew)); exact HO_9.out) hb); have n1_ := Aside0.mk (Kd.R_below (by (with_reducible repeat (first | apply Kd.R_alloc | apply Kd.R_drewN | apply Kd.R_drew)); exact HO_10.out) hb); have n2_ := Aside0.mk (below_step (by repeat (first | (with_reducible first | exact HB.out | apply below_alloc | apply pw_below_drewN | apply below_drew1) | exact HB.out)) hb); clear HO_9; clear HO_10; clear HB; have HO_9 := n0_; have HO_10 := n1_; have HB := n2_; clear n0_ n1_ n2_; (try clear hb); (try clear hb2); (try clear hk); (try clear hi); obtain ⟨Ao29, co29, eo29⟩ := Kd.R_slice HO_9.out; subst eo29; have p118 : 0 ≤ ((ji19) : Int) := of_decide_eq_true (by first | (with_reducible assumption) | assumption); have q118 : (ji19) < (x9_1.length : Int) := of_decide_eq_true (by first | (with_reducible assumption) | assumption); obtain ⟨ad118, e118, hx118_0, hx118_1, hx118_2⟩ := at_T56 (Kd.R_reads' HO_9.out).2.2 (ji19) p118 q118; cases e118; replace p118 := eq_true p118; replace q118 := eq_true q118; have p119 : 0 ≤ ((ji19) : Int) := of_decide_eq_true (by first | (with_reducible assumption) | assumption); have q119 : (ji19) < (x9_1.length : Int) := of_decide_eq_true (by first | (with_reducible assumption) | assumption); obtain ⟨ad119, e119, hx119_0, hx119_1, hx119_2⟩ := at_T56 (Kd.R_reads' HO_9.out).2.2 (ji19) p119 q119; obtain rfl : ad118 = ad119 := (by injection e119); replace p119 := eq_true p119; replace q119 := eq_true q119; have p120 : 0 ≤ ((ji24) : Int) := of_decide_eq_true (by first | (with_reducible assumption) | assumption); have q120 : (ji24) < (t108.length : Int) := of_decide_eq_true (by first | (with_reducible assumption) | assumption); obtain ⟨ad120, e120, hx120_0⟩ := Kd.at_int (Kd.R_reads' HO_10.out).2.2 (ji24) p120 q120; obtain rfl : ad115 = ad120 := (by injection e120); replace p120 := eq_true p120; replace q120 := eq_true q120; have p27 : 0 ≤ ((ji19) : Int) := of_decide_eq_true (by first | (with_reducible assumption) | assumption); have q27 : ((ji19) : Int) < ((x9_1.length : Int) : Int) := of_decide_eq_true (by first | (with_reducible assumption) | assumption); obtain ⟨go27, co27, eo27, gb27, gl27, cl27, HG27⟩ := Kd.R_form HO_9.out (by omega); (first | cases eo27 | (injection eo27 with ea_ en_ ec_; (first | subst ea_ | (injection ea_ with ea_; subst ea_)); subst ec_; clear en_)); have GB27 := Aside0.mk gb27; have GG27 := Aside0.mk HG27; clear gb27 gl27 HG27; (first | simp only [add_plain] at hx118_0 | skip); (first | simp only [add_plain] at hx118_1 | skip); (first | simp only [add_plain] at hx118_2 | skip); (first | simp only [add_plain] at hx119_0 | skip); (first | simp only [add_plain] at hx119_1 | skip); (first | simp only [add_plain] at hx119_2 | skip); obtain ⟨ce27, hcl27, hM27, hcc27, hfr27⟩ := Kd.R_elem HO_9.out z56 ((ji19) : Int) p27 q27; obtain rfl := k56_openM hM27; have hx27_0 : w28.cell? ⟨go27, ((ji19) : Int).toNat * 3, none⟩ = some (.int .i64 ((rd_T56 x9_1 (ji19)).f0)) := hcc27 0 _ rfl; have hx27_1 : w28.cell? ⟨go27, ((ji19) : Int).toNat * 3 + 1, none⟩ = some (.int .i64 ((rd_T56 x9_1 (ji19)).f1)) := hcc27 1 _ rfl; have hx27_2 : w28.cell? ⟨go27, ((ji19) : Int).toNat * 3 + 2, none⟩ = some (.int .i64 ((rd_T56 x9_1 (ji19)).f2)) := hcc27 2 _ rfl; have hf27_0 : w28.frozen? ⟨go27, ((ji19) : Int).toNat * 3, none⟩ = false := hfr27 0; have hf27_1 : w28.frozen? ⟨go27, ((ji19) : Int).toNat * 3 + 1, none⟩ = false := hfr27 1; have hf27_2 : w28.frozen? ⟨go27, ((ji19) : Int).toNat * 3 + 2, none⟩ = false := hfr27 2; clear hcl27 hcc27 hfr27 hM27; replace p27 := eq_true p27; replace q27 := eq_true q27; have HX30 := Aside0.mk (show Kd.R k56 56 w28 w.heap.size (fun _ => True) (.slice (some ⟨go27, 0, none⟩) x9_1.length co29) x9_1 from (by (with_reducible repeat (first | apply Kd.R_alloc | apply Kd.R_drewN | apply Kd.R_drew)); exact HO_9.out)); obtain ⟨ce30, hcl30, hM30, hcc30, hfr30⟩ := Kd.R_elem HX30.out z56 ((ji19) : Int) (of_decide_eq_true (by first | (with_reducible assumption) | assumption)) (by have h_ : ((ji19) : Int) < ((x9_1.length : Int) : Int) := of_decide_eq_true (by first | (with_reducible assumption) | assumption); first | exact h_ | (have e_ := (Kd.R_reads' HO_9.out).1; omega) | simpa using h_); obtain rfl := k56_openM hM30; have HP30 := Kd.R_seg HX30.out ((ji19) : Int) (of_decide_eq_true (by first | (with_reducible assumption) | assumption)) (by have h_ : ((ji19) : Int) < ((x9_1.length : Int) : Int) := of_decide_eq_true (by first | (with_reducible assumption) | assumption); first | exact h_ | (have e_ := (Kd.R_reads' HO_9.out).1; omega) | simpa using h_) (seg := [.int .i64 (rd t108 (ji24))]) (j := 1) hcl30 hcc30 (show 2 ≤ 3 from by decide) (x' := (⟨(rd_T56 x9_1 (ji19)).f0, rd t108 (ji24), (rd_T56 x9_1 (ji19)).f2⟩ : S56)) (k56_mkM _ _ _ (⟨(rd_T56 x9_1 (ji19)).f0, rd t108 (ji24), (rd_T56 x9_1 (ji19)).f2⟩ : S56) ) (fun _ hk => hk); have hx30_1 := hcc30 1 _ rfl; (try simp only [show (k56).sz = 3 from rfl, Nat.mul_one, Nat.add_zero] at hx30_1); have hf30_1 := hfr30 1; (try simp only [show (k56).sz = 3 from rfl, Nat.mul_one, Nat.add_zero] at hf30_1); clear hcl30 hcc30 hfr30 hM30) | ((with_reducible refine gate_store (t := 2) (p := 74) rfl ?_); refine store_event (t := 2) (p := 74) (v := ?vo_w31) (w1 := (w28.setCell ⟨go27, ((ji19) : Int).toNat * 3 + 1, none⟩ (.int .i64 (rd t108 (ji24))))) ?hg ?ho ?hn ?hr ?_; (case ho => rfl); (case hg => rfl); (case hn => rfl); (case hr => first | (go_simp; done) | (go_simp; rfl)); intro w31 hw; have hg : w28.grownBy w31 (some go27) := (by rw [hw]; exact HP30.2); have hp_ : Kd.R k56 56 w31 w.heap.size (fun _ => True) (.slice (some ⟨go27, 0, none⟩) x9_1.length co29) y121 := (by rw [hw, Ny121.out]; exact HP30.1); clear HP30; have n0_ := Aside0.mk (hp_); have n1_ := Aside0.mk (Kd.R_over' (v := (.slice (some ⟨go27, 0, none⟩) x9_1.length co29)) (by (with_reducible repeat (first | apply Kd.R_alloc | apply Kd.R_drewN | apply Kd.R_drew)); exact HO_10.out) (Kd.R_typed HO_9.out) (by decide) hg); have n2_ := Aside0.mk ((by rw [hw]; exact below_set (HB.out) GB27.out : Below w.heap.size w w31)); clear HO_9; clear HO_10; clear HB; have HO_9 := n0_; have HO_10 := n1_; have HB := n2_; clear n0_ n1_ n2_; clear hg hw hp_))
                 go_roundg k1
                 case measure => have := HK1.out; omega
                 case rel => exact ⟨(y121), (ji24), (by first | rfl | (simp; done) | (simp only [← hji24] <;> (first | rfl | simp)) | (simp [*]; done)), H', ⟨by have := HK1.out; omega⟩, ⟨by (with_reducible repeat (first | apply Kd.R_alloc | apply Kd.R_drewN | apply Kd.R_drew)); exact HO_9.out⟩, ⟨by (with_reducible repeat (first | apply Kd.R_alloc | apply Kd.R_drewN | apply Kd.R_drew)); exact HO_10.out⟩, ⟨by repeat (first | (with_reducible first | exact HB.out | apply below_alloc | apply pw_below_drewN | apply below_drew1) | exact HB.out)⟩⟩
                ·rw [if_neg c26] at H
                 exact absurd H (by simp)
               ·rw [if_neg c25] at H
                exact absurd H (by simp)
              ·rw [if_neg c23] at H
               have c23b0 : (((rd_T56 x9_1 (ji19)).f1) == (rd y111 x29_1)) = false := beq_eq_false_iff_ne.mpr c23
               have c23b1 : (((rd_T56 x9_1 (ji19)).f1) != (rd y111 x29_1)) = true := bne_iff_ne.mpr c23
               obtain ⟨ji32, hji32⟩ : ∃ j_ : Int, (wrap64 (x29_1 + 1)) = j_ := ⟨_, rfl⟩
               replace H : (if 0 ≤ (ji32) then (if (ji32) < (t108.length : Int) then (if x9_1.length < 5864062014805 then (raster_Runs.l0 k1 l0 a1 (x9_1 ++ [(⟨rd y111 x29_1, rd t108 (ji32), t116⟩ : S56)]) t108 y111 (y111.length : Int) ji32) else (none)) else (none)) else (none)) = some r := by first | (rw [hji32] at H; exact H) | (simp only [hji32] at H ⊢; exact H)
               (try rw [hji32] at A16)
               have hji32w : (IntKind.i64.wrap (x29_1 + 1)) = ji32 := (i64_w _).trans hji32
               by_cases c33 : 0 ≤ (ji32)
               ·rw [if_pos c33] at H
                have c33b0 : decide (0 ≤ (ji32)) = true := decide_eq_true c33
                clear c33
                by_cases c34 : (ji32) < (t108.length : Int)
                ·rw [if_pos c34] at H
                 have c34b0 : decide ((ji32) < (t108.length : Int)) = true := decide_eq_true c34
                 clear c34
                 by_cases c35 : x9_1.length < 5864062014805
                 ·rw [if_pos c35] at H
                  have LMc35 := Aside0.mk c35
                  clear c35
                  obtain ⟨y123, hy123⟩ : ∃ y_ : List (S56), y_ = (x9_1 ++ [(⟨rd y111 x29_1, rd t108 (ji32), t116⟩ : S56)]) := ⟨_, rfl⟩
                  replace H : (raster_Runs.l0 k1 l0 a1 y123 t108 y111 (y111.length : Int) ji32) = some r := by first | (rw [hy123]; with_reducible exact H) | (have H2_ := (Option.bind_some _ _).symm.trans H; rw [hy123]; with_reducible exact H2_) | (have H2_ := (Option.bind_some _ _).symm.trans H; with_reducible exact H2_) | with_reducible exact H | (rw [hy123]; exact H) | exact H
                  have Ny123 := Aside0.mk hy123
                  clear hy123
                  have H' := Aside0.mk H
                  clear H
                  have p115 : 0 ≤ (x29_1 : Int) := of_decide_eq_true (by first | (with_reducible assumption) | assumption)
                  have q115 : x29_1 < (y111.length : Int) := of_decide_eq_true (by first | (with_reducible assumption) | assumption)
                  have q115c := rd_cut Ny111.out p115 q115
                  obtain ⟨ad115, e115, hx115_0⟩ := Kd.at_int (Kd.R_reads' HO_10.out).2.2 x29_1 p115 q115c.1
                  cases e115
                  rw [q115c.2] at hx115_0
                  replace p115 := eq_true p115
                  replace q115 := eq_true q115
                  go_wp2_with (first | ((with_reducible refine gate_callee (f := 51) rfl ?_); refine goesL_ (some 38) rfl rfl Try.func51 (by kernel_rfl) rfl #[.slice A0 l0.length c0, .int .i64 (rd y111 x29_1), .int .i64 a1] rfl (by (try simp only [List.map_toArray, List.map_cons, List.map_nil]); first | done | rfl | (simp only [List.length_drop, List.length_take]; rfl)) ?_; (with_reducible refine (owner_Of.calls k1 _ _ l0 (rd y111 x29_1) a1 t116 true _ ?side1 ?side2 A16.out).mono ?_); (case side1 => repeat (first | exact (Kd.C_below HR0.out HB.out) | (with_reducible refine Kd.C_alloc ?_ _) | (with_reducible refine Kd.C_drewN ?_ _) | (with_reducible refine Kd.C_drew ?_))); (case side2 => exact HC0.out); rintro e w36 ⟨rfl, hb⟩; refine ⟨_, rfl, ?_⟩; have n0_ := Aside0.mk (Kd.R_below (by (with_reducible repeat (first | apply Kd.R_alloc | apply Kd.R_drewN | apply Kd.R_drew)); exact HO_9.out) hb); have n1_ := Aside0.mk (Kd.R_below (by (with_reducible repeat (first | apply Kd.R_alloc | apply Kd.R_drewN | apply Kd.R_drew)); exact HO_10.out) hb); have n2_ := Aside0.mk (below_step (by repeat (first | (with_reducible first | exact HB.out | apply below_alloc | apply pw_below_drewN | apply below_drew1) | exact HB.out)) hb); clear HO_9; clear HO_10; clear HB; have HO_9 := n0_; have HO_10 := n1_; have HB := n2_; clear n0_ n1_ n2_; (try clear hb); (try clear hb2); (try clear hk); (try clear hi); obtain ⟨Ao37, co37, eo37⟩ := Kd.R_slice HO_9.out; subst eo37; have p118 : 0 ≤ ((ji19) : Int) := of_decide_eq_true (by first | (with_reducible assumption) | assumption); have q118 : (ji19) < (x9_1.length : Int) := of_decide_eq_true (by first | (with_reducible assumption) | assumption); obtain ⟨ad118, e118, hx118_0, hx118_1, hx118_2⟩ := at_T56 (Kd.R_reads' HO_9.out).2.2 (ji19) p118 q118; cases e118; replace p118 := eq_true p118; replace q118 := eq_true q118; have p119 : 0 ≤ ((ji19) : Int) := of_decide_eq_true (by first | (with_reducible assumption) | assumption); have q119 : (ji19) < (x9_1.length : Int) := of_decide_eq_true (by first | (with_reducible assumption) | assumption); obtain ⟨ad119, e119, hx119_0, hx119_1, hx119_2⟩ := at_T56 (Kd.R_reads' HO_9.out).2.2 (ji19) p119 q119; obtain rfl : ad118 = ad119 := (by injection e119); replace p119 := eq_true p119; replace q119 := eq_true q119; have p122 : 0 ≤ ((ji32) : Int) := of_decide_eq_true (by first | (with_reducible assumption) | assumption); have q122 : (ji32) < (t108.length : Int) := of_decide_eq_true (by first | (with_reducible assumption) | assumption); obtain ⟨ad122, e122, hx122_0⟩ := Kd.at_int (Kd.R_reads' HO_10.out).2.2 (ji32) p122 q122; obtain rfl : ad115 = ad122 := (by injection e122); replace p122 := eq_true p122; replace q122 := eq_true q122) | ((with_reducible refine gate_builtin (b := .append) (xs := #[.tmp 75, .tmp 84]) rfl ?_); at_builtin; refine Kd.R_append k56 (w0 := w) w.heap.size rfl (.tmp 75) (.tmp 84) 53 56 (.agg #[(.int .i64 0), (.int .i64 0), (.int .i64 0)]) 24 rfl Try.underlying53 info56 rfl (by decide) (by omega) (.slice (some ad118) x9_1.length co37) x9_1 (⟨rd y111 x29_1, rd t108 (ji32), t116⟩ : S56) [.int .i64 (rd y111 x29_1), .int .i64 (rd t108 (ji32)), .int .i64 t116] (fun _ => True) (fun _ => False) rfl rfl ?aP (fun _ hk => hk.elim) ?aF ?aO ?aB ?aS ?aL ?_; (case aP => exact k56_mkM _ _ _ (⟨rd y111 x29_1, rd t108 (ji32), t116⟩ : S56)); (case aB => exact (by repeat (first | (with_reducible first | exact HB.out | apply below_alloc | apply pw_below_drewN | apply below_drew1) | exact HB.out))); (case aF => exact (fun _ _ => trivial)); (case aO => exact (by (with_reducible repeat (first | apply Kd.R_alloc | apply Kd.R_drewN | apply Kd.R_drew)); exact HO_9.out)); (case aS => exact (below_size (by repeat (first | (with_reducible first | exact HB.out | apply below_alloc | apply pw_below_drewN | apply below_drew1) | exact HB.out)))); (case aL => have := LMc35.out; omega); intro v124 w38 ho hb hg hat; rw [← Ny123.out] at ho; have n0_ := Aside0.mk (Kd.R_over' (by (with_reducible repeat (first | apply Kd.R_alloc | apply Kd.R_drewN | apply Kd.R_drew)); exact HO_10.out) (Kd.R_typed (by (with_reducible repeat (first | apply Kd.R_alloc | apply Kd.R_drewN | apply Kd.R_drew)); exact HO_9.out)) (by decide) hg); have n1_ := Aside0.mk (hb); have n2_ := Aside0.mk (ho); clear HO_10; clear HB; clear HO_9; have HO_10 := n0_; have HB := n1_; have HO125 := n2_; clear n0_ n1_ n2_; clear ho hb hg hat))
                  go_roundg k1
                  case measure => have := HK1.out; omega
                  case rel => exact ⟨(y123), (ji32), (by first | rfl | (simp; done) | (simp only [← hji32] <;> (first | rfl | simp)) | (simp [*]; done)), H', ⟨by have := HK1.out; omega⟩, ⟨by (with_reducible repeat (first | apply Kd.R_alloc | apply Kd.R_drewN | apply Kd.R_drew)); exact HO125.out⟩, ⟨by (with_reducible repeat (first | apply Kd.R_alloc | apply Kd.R_drewN | apply Kd.R_drew)); exact HO_10.out⟩, ⟨by repeat (first | (with_reducible first | exact HB.out | apply below_alloc | apply pw_below_drewN | apply below_drew1) | exact HB.out)⟩⟩
                 ·rw [if_neg c35] at H
                  exact absurd H (by simp)
                ·rw [if_neg c34] at H
                 exact absurd H (by simp)
               ·rw [if_neg c33] at H
                exact absurd H (by simp)
             ·rw [if_neg c22] at H
              have c22b0 : (((rd_T56 x9_1 (ji19)).f2) == t116) = false := beq_eq_false_iff_ne.mpr c22
              have c22b1 : (((rd_T56 x9_1 (ji19)).f2) != t116) = true := bne_iff_ne.mpr c22
              obtain ⟨ji39, hji39⟩ : ∃ j_ : Int, (wrap64 (x29_1 + 1)) = j_ := ⟨_, rfl⟩
              replace H : (if 0 ≤ (ji39) then (if (ji39) < (t108.length : Int) then (if x9_1.length < 5864062014805 then (raster_Runs.l0 k1 l0 a1 (x9_1 ++ [(⟨rd y111 x29_1, rd t108 (ji39), t116⟩ : S56)]) t108 y111 (y111.length : Int) ji39) else (none)) else (none)) else (none)) = some r := by first | (rw [hji39] at H; exact H) | (simp only [hji39] at H ⊢; exact H)
              (try rw [hji39] at A16)
              have hji39w : (IntKind.i64.wrap (x29_1 + 1)) = ji39 := (i64_w _).trans hji39
              by_cases c40 : 0 ≤ (ji39)
              ·rw [if_pos c40] at H
               have c40b0 : decide (0 ≤ (ji39)) = true := decide_eq_true c40
               clear c40
               by_cases c41 : (ji39) < (t108.length : Int)
               ·rw [if_pos c41] at H
                have c41b0 : decide ((ji39) < (t108.length : Int)) = true := decide_eq_true c41
                clear c41
                by_cases c42 : x9_1.length < 5864062014805
                ·rw [if_pos c42] at H
                 have LMc42 := Aside0.mk c42
                 clear c42
                 obtain ⟨y127, hy127⟩ : ∃ y_ : List (S56), y_ = (x9_1 ++ [(⟨rd y111 x29_1, rd t108 (ji39), t116⟩ : S56)]) := ⟨_, rfl⟩
                 replace H : (raster_Runs.l0 k1 l0 a1 y127 t108 y111 (y111.length : Int) ji39) = some r := by first | (rw [hy127]; with_reducible exact H) | (have H2_ := (Option.bind_some _ _).symm.trans H; rw [hy127]; with_reducible exact H2_) | (have H2_ := (Option.bind_some _ _).symm.trans H; with_reducible exact H2_) | with_reducible exact H | (rw [hy127]; exact H) | exact H
                 have Ny127 := Aside0.mk hy127
                 clear hy127
                 have H' := Aside0.mk H
                 clear H
                 have p115 : 0 ≤ (x29_1 : Int) := of_decide_eq_true (by first | (with_reducible assumption) | assumption)
                 have q115 : x29_1 < (y111.length : Int) := of_decide_eq_true (by first | (with_reducible assumption) | assumption)
                 have q115c := rd_cut Ny111.out p115 q115
                 obtain ⟨ad115, e115, hx115_0⟩ := Kd.at_int (Kd.R_reads' HO_10.out).2.2 x29_1 p115 q115c.1
                 cases e115
                 rw [q115c.2] at hx115_0
                 replace p115 := eq_true p115
                 replace q115 := eq_true q115
                 go_wp2_with (first | ((with_reducible refine gate_callee (f := 51) rfl ?_); refine goesL_ (some 38) rfl rfl Try.func51 (by kernel_rfl) rfl #[.slice A0 l0.length c0, .int .i64 (rd y111 x29_1), .int .i64 a1] rfl (by (try simp only [List.map_toArray, List.map_cons, List.map_nil]); first | done | rfl | (simp only [List.length_drop, List.length_take]; rfl)) ?_; (with_reducible refine (owner_Of.calls k1 _ _ l0 (rd y111 x29_1) a1 t116 true _ ?side1 ?side2 A16.out).mono ?_); (case side1 => repeat (first | exact (Kd.C_below HR0.out HB.out) | (with_reducible refine Kd.C_alloc ?_ _) | (with_reducible refine Kd.C_drewN ?_ _) | (with_reducible refine Kd.C_drew ?_))); (case side2 => exact HC0.out); rintro e w43 ⟨rfl, hb⟩; refine ⟨_, rfl, ?_⟩; have n0_ := Aside0.mk (Kd.R_below (by (with_reducible repeat (first | apply Kd.R_alloc | apply Kd.R_drewN | apply Kd.R_drew)); exact HO_9.out) hb); have n1_ := Aside0.mk (Kd.R_below (by (with_reducible repeat (first | apply Kd.R_alloc | apply Kd.R_drewN | apply Kd.R_drew)); exact HO_10.out) hb); have n2_ := Aside0.mk (below_step (by repeat (first | (with_reducible first | exact HB.out | apply below_alloc | apply pw_below_drewN | apply below_drew1) | exact HB.out)) hb); clear HO_9; clear HO_10; clear HB; have HO_9 := n0_; have HO_10 := n1_; have HB := n2_; clear n0_ n1_ n2_; (try clear hb); (try clear hb2); (try clear hk); (try clear hi); obtain ⟨Ao44, co44, eo44⟩ := Kd.R_slice HO_9.out; subst eo44; have p118 : 0 ≤ ((ji19) : Int) := of_decide_eq_true (by first | (with_reducible assumption) | assumption); have q118 : (ji19) < (x9_1.length : Int) := of_decide_eq_true (by first | (with_reducible assumption) | assumption); obtain ⟨ad118, e118, hx118_0, hx118_1, hx118_2⟩ := at_T56 (Kd.R_reads' HO_9.out).2.2 (ji19) p118 q118; cases e118; replace p118 := eq_true p118; replace q118 := eq_true q118; have p126 : 0 ≤ ((ji39) : Int) := of_decide_eq_true (by first | (with_reducible assumption) | assumption); have q126 : (ji39) < (t108.length : Int) := of_decide_eq_true (by first | (with_reducible assumption) | assumption); obtain ⟨ad126, e126, hx126_0⟩ := Kd.at_int (Kd.R_reads' HO_10.out).2.2 (ji39) p126 q126; obtain rfl : ad115 = ad126 := (by injection e126); replace p126 := eq_true p126; replace q126 := eq_true q126) | ((with_reducible refine gate_builtin (b := .append) (xs := #[.tmp 75, .tmp 84]) rfl ?_); at_builtin; refine Kd.R_append k56 (w0 := w) w.heap.size rfl (.tmp 75) (.tmp 84) 53 56 (.agg #[(.int .i64 0), (.int .i64 0), (.int .i64 0)]) 24 rfl Try.underlying53 info56 rfl (by decide) (by omega) (.slice (some ad118) x9_1.length co44) x9_1 (⟨rd y111 x29_1, rd t108 (ji39), t116⟩ : S56) [.int .i64 (rd y111 x29_1), .int .i64 (rd t108 (ji39)), .int .i64 t116] (fun _ => True) (fun _ => False) rfl rfl ?aP (fun _ hk => hk.elim) ?aF ?aO ?aB ?aS ?aL ?_; (case aP => exact k56_mkM _ _ _ (⟨rd y111 x29_1, rd t108 (ji39), t116⟩ : S56)); (case aB => exact (by repeat (first | (with_reducible first | exact HB.out | apply below_alloc | apply pw_below_drewN | apply below_drew1) | exact HB.out))); (case aF => exact (fun _ _ => trivial)); (case aO => exact (by (with_reducible repeat (first | apply Kd.R_alloc | apply Kd.R_drewN | apply Kd.R_drew)); exact HO_9.out)); (case aS => exact (below_size (by repeat (first | (with_reducible first | exact HB.out | apply below_alloc | apply pw_below_drewN | apply below_drew1) | exact HB.out)))); (case aL => have := LMc42.out; omega); intro v128 w45 ho hb hg hat; rw [← Ny127.out] at ho; have n0_ := Aside0.mk (Kd.R_over' (by (with_reducible repeat (first | apply Kd.R_alloc | apply Kd.R_drewN | apply Kd.R_drew)); exact HO_10.out) (Kd.R_typed (by (with_reducible repeat (first | apply Kd.R_alloc | apply Kd.R_drewN | apply Kd.R_drew)); exact HO_9.out)) (by decide) hg); have n1_ := Aside0.mk (hb); have n2_ := Aside0.mk (ho); clear HO_10; clear HB; clear HO_9; have HO_10 := n0_; have HB := n1_; have HO129 := n2_; clear n0_ n1_ n2_; clear ho hb hg hat))
                 go_roundg k1
                 case measure => have := HK1.out; omega
                 case rel => exact ⟨(y127), (ji39), (by first | rfl | (simp; done) | (simp only [← hji39] <;> (first | rfl | simp)) | (simp [*]; done)), H', ⟨by have := HK1.out; omega⟩, ⟨by (with_reducible repeat (first | apply Kd.R_alloc | apply Kd.R_drewN | apply Kd.R_drew)); exact HO129.out⟩, ⟨by (with_reducible repeat (first | apply Kd.R_alloc | apply Kd.R_drewN | apply Kd.R_drew)); exact HO_10.out⟩, ⟨by repeat (first | (with_reducible first | exact HB.out | apply below_alloc | apply pw_below_drewN | apply below_drew1) | exact HB.out)⟩⟩
                ·rw [if_neg c42] at H
                 exact absurd H (by simp)
               ·rw [if_neg c41] at H
                exact absurd H (by simp)
              ·rw [if_neg c40] at H
               exact absurd H (by simp)
            ·rw [if_neg c21] at H
             exact absurd H (by simp)
           ·rw [if_neg c20] at H
            exact absurd H (by simp)
          ·rw [if_neg c18] at H
           have c18b0 : decide (0 ≤ (wrap64 ((x9_1.length : Int) - 1))) = false := decide_eq_false c18
           clear c18
           obtain ⟨ji46, hji46⟩ : ∃ j_ : Int, (wrap64 (x29_1 + 1)) = j_ := ⟨_, rfl⟩
           replace H : (if 0 ≤ (ji46) then (if (ji46) < (t108.length : Int) then (if x9_1.length < 5864062014805 then (raster_Runs.l0 k1 l0 a1 (x9_1 ++ [(⟨rd y111 x29_1, rd t108 (ji46), t116⟩ : S56)]) t108 y111 (y111.length : Int) ji46) else (none)) else (none)) else (none)) = some r := by first | (rw [hji46] at H; exact H) | (simp only [hji46] at H ⊢; exact H)
           (try rw [hji46] at A16)
           have hji46w : (IntKind.i64.wrap (x29_1 + 1)) = ji46 := (i64_w _).trans hji46
           by_cases c47 : 0 ≤ (ji46)
           ·rw [if_pos c47] at H
            have c47b0 : decide (0 ≤ (ji46)) = true := decide_eq_true c47
            clear c47
            by_cases c48 : (ji46) < (t108.length : Int)
            ·rw [if_pos c48] at H
             have c48b0 : decide ((ji46) < (t108.length : Int)) = true := decide_eq_true c48
             clear c48
             by_cases c49 : x9_1.length < 5864062014805
             ·rw [if_pos c49] at H
              have LMc49 := Aside0.mk c49
              clear c49
              obtain ⟨y131, hy131⟩ : ∃ y_ : List (S56), y_ = (x9_1 ++ [(⟨rd y111 x29_1, rd t108 (ji46), t116⟩ : S56)]) := ⟨_, rfl⟩
              replace H : (raster_Runs.l0 k1 l0 a1 y131 t108 y111 (y111.length : Int) ji46) = some r := by first | (rw [hy131]; with_reducible exact H) | (have H2_ := (Option.bind_some _ _).symm.trans H; rw [hy131]; with_reducible exact H2_) | (have H2_ := (Option.bind_some _ _).symm.trans H; with_reducible exact H2_) | with_reducible exact H | (rw [hy131]; exact H) | exact H
              have Ny131 := Aside0.mk hy131
              clear hy131
              have H' := Aside0.mk H
              clear H
              have p115 : 0 ≤ (x29_1 : Int) := of_decide_eq_true (by first | (with_reducible assumption) | assumption)
              have q115 : x29_1 < (y111.length : Int) := of_decide_eq_true (by first | (with_reducible assumption) | assumption)
              have q115c := rd_cut Ny111.out p115 q115
              obtain ⟨ad115, e115, hx115_0⟩ := Kd.at_int (Kd.R_reads' HO_10.out).2.2 x29_1 p115 q115c.1
              cases e115
              rw [q115c.2] at hx115_0
              replace p115 := eq_true p115
              replace q115 := eq_true q115
              go_wp2_with (first | ((with_reducible refine gate_callee (f := 51) rfl ?_); refine goesL_ (some 38) rfl rfl Try.func51 (by kernel_rfl) rfl #[.slice A0 l0.length c0, .int .i64 (rd y111 x29_1), .int .i64 a1] rfl (by (try simp only [List.map_toArray, List.map_cons, List.map_nil]); first | done | rfl | (simp only [List.length_drop, List.length_take]; rfl)) ?_; (with_reducible refine (owner_Of.calls k1 _ _ l0 (rd y111 x29_1) a1 t116 true _ ?side1 ?side2 A16.out).mono ?_); (case side1 => repeat (first | exact (Kd.C_below HR0.out HB.out) | (with_reducible refine Kd.C_alloc ?_ _) | (with_reducible refine Kd.C_drewN ?_ _) | (with_reducible refine Kd.C_drew ?_))); (case side2 => exact HC0.out); rintro e w50 ⟨rfl, hb⟩; refine ⟨_, rfl, ?_⟩; have n0_ := Aside0.mk (Kd.R_below (by (with_reducible repeat (first | apply Kd.R_alloc | apply Kd.R_drewN | apply Kd.R_drew)); exact HO_9.out) hb); have n1_ := Aside0.mk (Kd.R_below (by (with_reducible repeat (first | apply Kd.R_alloc | apply Kd.R_drewN | apply Kd.R_drew)); exact HO_10.out) hb); have n2_ := Aside0.mk (below_step (by repeat (first | (with_reducible first | exact HB.out | apply below_alloc | apply pw_below_drewN | apply below_drew1) | exact HB.out)) hb); clear HO_9; clear HO_10; clear HB; have HO_9 := n0_; have HO_10 := n1_; have HB := n2_; clear n0_ n1_ n2_; (try clear hb); (try clear hb2); (try clear hk); (try clear hi); obtain ⟨Ao51, co51, eo51⟩ := Kd.R_slice HO_9.out; subst eo51; have p130 : 0 ≤ ((ji46) : Int) := of_decide_eq_true (by first | (with_reducible assumption) | assumption); have q130 : (ji46) < (t108.length : Int) := of_decide_eq_true (by first | (with_reducible assumption) | assumption); obtain ⟨ad130, e130, hx130_0⟩ := Kd.at_int (Kd.R_reads' HO_10.out).2.2 (ji46) p130 q130; obtain rfl : ad115 = ad130 := (by injection e130); replace p130 := eq_true p130; replace q130 := eq_true q130) | ((with_reducible refine gate_builtin (b := .append) (xs := #[.tmp 75, .tmp 84]) rfl ?_); at_builtin; refine Kd.R_append k56 (w0 := w) w.heap.size rfl (.tmp 75) (.tmp 84) 53 56 (.agg #[(.int .i64 0), (.int .i64 0), (.int .i64 0)]) 24 rfl Try.underlying53 info56 rfl (by decide) (by omega) (.slice Ao51 x9_1.length co51) x9_1 (⟨rd y111 x29_1, rd t108 (ji46), t116⟩ : S56) [.int .i64 (rd y111 x29_1), .int .i64 (rd t108 (ji46)), .int .i64 t116] (fun _ => True) (fun _ => False) rfl rfl ?aP (fun _ hk => hk.elim) ?aF ?aO ?aB ?aS ?aL ?_; (case aP => exact k56_mkM _ _ _ (⟨rd y111 x29_1, rd t108 (ji46), t116⟩ : S56)); (case aB => exact (by repeat (first | (with_reducible first | exact HB.out | apply below_alloc | apply pw_below_drewN | apply below_drew1) | exact HB.out))); (case aF => exact (fun _ _ => trivial)); (case aO => exact (by (with_reducible repeat (first | apply Kd.R_alloc | apply Kd.R_drewN | apply Kd.R_drew)); exact HO_9.out)); (case aS => exact (below_size (by repeat (first | (with_reducible first | exact HB.out | apply below_alloc | apply pw_below_drewN | apply below_drew1) | exact HB.out)))); (case aL => have := LMc49.out; omega); intro v132 w52 ho hb hg hat; rw [← Ny131.out] at ho; have n0_ := Aside0.mk (Kd.R_over' (by (with_reducible repeat (first | apply Kd.R_alloc | apply Kd.R_drewN | apply Kd.R_drew)); exact HO_10.out) (Kd.R_typed (by (with_reducible repeat (first | apply Kd.R_alloc | apply Kd.R_drewN | apply Kd.R_drew)); exact HO_9.out)) (by decide) hg); have n1_ := Aside0.mk (hb); have n2_ := Aside0.mk (ho); clear HO_10; clear HB; clear HO_9; have HO_10 := n0_; have HB := n1_; have HO133 := n2_; clear n0_ n1_ n2_; clear ho hb hg hat))
              go_roundg k1
              case measure => have := HK1.out; omega
              case rel => exact ⟨(y131), (ji46), (by first | rfl | (simp; done) | (simp only [← hji46] <;> (first | rfl | simp)) | (simp [*]; done)), H', ⟨by have := HK1.out; omega⟩, ⟨by (with_reducible repeat (first | apply Kd.R_alloc | apply Kd.R_drewN | apply Kd.R_drew)); exact HO133.out⟩, ⟨by (with_reducible repeat (first | apply Kd.R_alloc | apply Kd.R_drewN | apply Kd.R_drew)); exact HO_10.out⟩, ⟨by repeat (first | (with_reducible first | exact HB.out | apply below_alloc | apply pw_below_drewN | apply below_drew1) | exact HB.out)⟩⟩
             ·rw [if_neg c49] at H
              exact absurd H (by simp)
            ·rw [if_neg c48] at H
             exact absurd H (by simp)
           ·rw [if_neg c47] at H
            exact absurd H (by simp)
         ·replace c17 := Bool.eq_false_iff.mpr c17
          subst c17
          have H1 : (raster_Runs.l0 k1 l0 a1 x9_1 t108 y111 (y111.length : Int) (wrap64 (x29_1 + 1))) = some r := by rw [if_neg (show ¬ (false = true) by decide)] at H; exact H
          clear H
          have H := H1
          clear H1
          have H' := Aside0.mk H
          clear H
          have p115 : 0 ≤ (x29_1 : Int) := of_decide_eq_true (by first | (with_reducible assumption) | assumption)
          have q115 : x29_1 < (y111.length : Int) := of_decide_eq_true (by first | (with_reducible assumption) | assumption)
          have q115c := rd_cut Ny111.out p115 q115
          obtain ⟨ad115, e115, hx115_0⟩ := Kd.at_int (Kd.R_reads' HO_10.out).2.2 x29_1 p115 q115c.1
          cases e115
          rw [q115c.2] at hx115_0
          replace p115 := eq_true p115
          replace q115 := eq_true q115
          go_wp2_with (first | ((with_reducible refine gate_callee (f := 51) rfl ?_); refine goesL_ (some 38) rfl rfl Try.func51 (by kernel_rfl) rfl #[.slice A0 l0.length c0, .int .i64 (rd y111 x29_1), .int .i64 a1] rfl (by (try simp only [List.map_toArray, List.map_cons, List.map_nil]); first | done | rfl | (simp only [List.length_drop, List.length_take]; rfl)) ?_; (with_reducible refine (owner_Of.calls k1 _ _ l0 (rd y111 x29_1) a1 t116 false _ ?side1 ?side2 A16.out).mono ?_); (case side1 => repeat (first | exact (Kd.C_below HR0.out HB.out) | (with_reducible refine Kd.C_alloc ?_ _) | (with_reducible refine Kd.C_drewN ?_ _) | (with_reducible refine Kd.C_drew ?_))); (case side2 => exact HC0.out); rintro e w53 ⟨rfl, hb⟩; refine ⟨_, rfl, ?_⟩; have n0_ := Aside0.mk (Kd.R_below (by (with_reducible repeat (first | apply Kd.R_alloc | apply Kd.R_drewN | apply Kd.R_drew)); exact HO_9.out) hb); have n1_ := Aside0.mk (Kd.R_below (by (with_reducible repeat (first | apply Kd.R_alloc | apply Kd.R_drewN | apply Kd.R_drew)); exact HO_10.out) hb); have n2_ := Aside0.mk (below_step (by repeat (first | (with_reducible first | exact HB.out | apply below_alloc | apply pw_below_drewN | apply below_drew1) | exact HB.out)) hb); clear HO_9; clear HO_10; clear HB; have HO_9 := n0_; have HO_10 := n1_; have HB := n2_; clear n0_ n1_ n2_; (try clear hb); (try clear hb2); (try clear hk); (try clear hi)))
          go_roundg k1
          case measure => have := HK1.out; omega
          case rel => exact ⟨(x9_1), (wrap64 (x29_1 + 1)), (by first | rfl | (simp; done) | (simp [*]; done)), H', ⟨by have := HK1.out; omega⟩, ⟨by (with_reducible repeat (first | apply Kd.R_alloc | apply Kd.R_drewN | apply Kd.R_drew)); exact HO_9.out⟩, ⟨by (with_reducible repeat (first | apply Kd.R_alloc | apply Kd.R_drewN | apply Kd.R_drew)); exact HO_10.out⟩, ⟨by repeat (first | (with_reducible first | exact HB.out | apply below_alloc | apply pw_below_drewN | apply below_drew1) | exact HB.out)⟩⟩
        ·rw [if_neg c15] at H
         exact absurd H (by simp)
       ·rw [if_neg c14] at H
        exact absurd H (by simp)
      ·rw [if_neg c13] at H
       have c13b0 : decide (x29_1 < (y111.length : Int)) = false := decide_eq_false c13
       clear c13
       obtain rfl := Option.some.inj H
       go_wp2
       go_ret
       exact ⟨_, by first | rfl | (simp [errW_none, errW_some] <;> rfl) | (simp only [← hji7]; first | rfl | (simp [errW_none, errW_some] <;> rfl)) | (simp [*, errW_none, errW_some] <;> rfl), by (with_reducible repeat (first | apply Kd.R_alloc | apply Kd.R_drewN | apply Kd.R_drew)); exact HO_9.out, by repeat (first | (with_reducible first | exact HB.out | apply below_alloc | apply pw_below_drewN | apply below_drew1) | exact HB.out)⟩
   ·rw [if_neg c9] at H
    exact absurd H (by simp)
  ·rw [if_neg c8] at H
   exact absurd H (by simp)

/-! ### raster_within: function 61 -/
def raster_within.f (a0 : Int) (a1 : Int) : Option (Bool) := if a0 ≥ (wrap64 (-a1)) then (some (decide (a0 ≤ a1))) else (some false)
set_option maxHeartbeats 8000000 in
set_option maxRecDepth 100000 in
theorem raster_within.calls (a0 : Int) (a1 : Int) (r : Bool) (w : World) (h : raster_within.f a0 a1 = some r) :
  Calls Try.prog 61 #[.int .i64 a0, .int .i64 a1] w fun e w' => e = .returned (.bool r) ∧ Drawn0 w w' := by
 have H : (if a0 ≥ (wrap64 (-a1)) then (some (decide (a0 ≤ a1))) else (some false)) = some r := h
 clear h
 by_cases c3 : a0 ≥ (wrap64 (-a1))
 ·rw [if_pos c3] at H
  have c3b0 : decide ((wrap64 (-a1)) ≤ a0) = true := decide_eq_true c3
  clear c3
  obtain rfl := Option.some.inj H
  go_enter Try.func61, Try.ntmps61
  go_wp2
  go_ret
  exact ⟨by first | rfl | (simp; done) | (simp [*]; done), by repeat (first | exact Drawn0.refl _ | apply Drawn0.step)⟩
 ·rw [if_neg c3] at H
  have c3b0 : decide ((wrap64 (-a1)) ≤ a0) = false := decide_eq_false c3
  clear c3
  obtain rfl := Option.some.inj H
  go_enter Try.func61, Try.ntmps61
  go_wp2
  go_ret
  exact ⟨by first | rfl | (simp; done) | (simp [*]; done), by repeat (first | exact Drawn0.refl _ | apply Drawn0.step)⟩

/-! ### raster_Grid_right: function 49 -/
def raster_Grid_right.j0 : Nat → Bool → Int → Int → Int → Int → Int → Option (Bool)
 | 0, _, _, _, _, _, _ => none
 | k + 1, x28, x135000, x135001, x135002, x135003, x135004 => if x28 = true then (some false) else (if x135002 ≥ 1 then (if x135002 ≤ 1099511627776 then ((raster_within.f x135000 1099511627776).bind fun t135 => (if t135 = true then ((raster_within.f x135001 1099511627776).bind fun t136 => (some t136)) else (some false))) else (some false)) else (some false))
def raster_Grid_right.f (k : Nat) (a0_0 : Int) (a0_1 : Int) (a0_2 : Int) (a0_3 : Int) (a0_4 : Int) : Option (Bool) := if a0_3 < 1 then (raster_Grid_right.j0 k true a0_0 a0_1 a0_2 a0_3 a0_4) else (if a0_4 < 1 then (raster_Grid_right.j0 k true a0_0 a0_1 a0_2 a0_3 a0_4) else (if a0_3 > 4096 then (raster_Grid_right.j0 k true a0_0 a0_1 a0_2 a0_3 a0_4) else (if a0_4 > 4096 then (raster_Grid_right.j0 k true a0_0 a0_1 a0_2 a0_3 a0_4) else (raster_Grid_right.j0 k (decide ((wrap64 (a0_3 * a0_4)) > 4096)) a0_0 a0_1 a0_2 a0_3 a0_4))))
theorem raster_Grid_right.mono_l : ∀ k, (∀ y0 y1 y2 y3 y4 y5, LeO (raster_Grid_right.j0 k y0 y1 y2 y3 y4 y5) (raster_Grid_right.j0 (k + 1) y0 y1 y2 y3 y4 y5))
 | 0 => fun _ _ _ _ _ _ r h => by simp [raster_Grid_right.j0] at h
 | k + 1 => by
  have ih0 := raster_Grid_right.mono_l k
  ·intro y0 y1 y2 y3 y4 y5
   unfold raster_Grid_right.j0
   repeat' first
   | (with_reducible exact ih0 _ _ _ _ _ _)
   | (with_reducible exact LeO.refl _)
   | (with_reducible exact LeO.none _)
   | (with_reducible refine LeO.ite ?_ ?_)
   | (with_reducible refine LeO.bind ?_ (fun _ => ?_))
   | exact ih0 _ _ _ _ _ _
   | exact LeO.none _
   | refine LeO.ite ?_ ?_
   | refine LeO.bind ?_ (fun _ => ?_)
theorem raster_Grid_right.mono : ∀ a0 a1 a2 a3 a4 k, LeO (raster_Grid_right.f k a0 a1 a2 a3 a4) (raster_Grid_right.f (k + 1) a0 a1 a2 a3 a4) := by
 intro a0 a1 a2 a3 a4 k
 have ih0 := raster_Grid_right.mono_l k
 unfold raster_Grid_right.f
 repeat' first
   | (with_reducible exact ih0 _ _ _ _ _ _)
   | (with_reducible exact LeO.refl _)
   | (with_reducible exact LeO.none _)
   | (with_reducible refine LeO.ite ?_ ?_)
   | (with_reducible refine LeO.bind ?_ (fun _ => ?_))
   | exact ih0 _ _ _ _ _ _
   | exact LeO.none _
   | refine LeO.ite ?_ ?_
   | refine LeO.bind ?_ (fun _ => ?_)
set_option maxHeartbeats 8000000 in
set_option maxRecDepth 100000 in
theorem raster_Grid_right.calls (k : Nat) (a0_0 : Int) (a0_1 : Int) (a0_2 : Int) (a0_3 : Int) (a0_4 : Int) (r : Bool) (w : World) (h : raster_Grid_right.f k a0_0 a0_1 a0_2 a0_3 a0_4 = some r) :
  Calls Try.prog 49 #[.agg #[.int .i64 a0_0, .int .i64 a0_1, .int .i64 a0_2, .int .i64 a0_3, .int .i64 a0_4]] w fun e w' => e = .returned (.bool r) ∧ Below w.heap.size w w' := by
 have hu44 := Try.underlying44
 have HB := Aside0.mk (Below.refl w.heap.size w)
 have H : (if a0_3 < 1 then (raster_Grid_right.j0 k true a0_0 a0_1 a0_2 a0_3 a0_4) else (if a0_4 < 1 then (raster_Grid_right.j0 k true a0_0 a0_1 a0_2 a0_3 a0_4) else (if a0_3 > 4096 then (raster_Grid_right.j0 k true a0_0 a0_1 a0_2 a0_3 a0_4) else (if a0_4 > 4096 then (raster_Grid_right.j0 k true a0_0 a0_1 a0_2 a0_3 a0_4) else (raster_Grid_right.j0 k (decide ((wrap64 (a0_3 * a0_4)) > 4096)) a0_0 a0_1 a0_2 a0_3 a0_4))))) = some r := h
 clear h
 have HC2 := Aside0.mk H
 clear H
 go_enter Try.func49, Try.ntmps49
 go_upto_region 1 with (first | ((with_reducible refine gate_dst (N := 1) rfl ?_); refine box_event ?hg (N := 1) ?hd (cs := #[.int .i64 a0_0, .int .i64 a0_1, .int .i64 a0_2, .int .i64 a0_3, .int .i64 a0_4]) (t := 44) ?hr ?_; (case hd => rfl); (case hg => rfl); (case hr => first | (go_simp; done) | (go_simp; rfl)); intro gb134 hg w3 hbox hb; have n0_ := Aside0.mk (below_step (by repeat (first | (with_reducible first | exact HB.out | apply below_alloc | apply pw_below_drewN | apply below_drew1) | exact HB.out)) hb); have n1_ := Aside0.mk (hbox); have n2_ := Aside0.mk ((by rw [hg]; exact (below_size (by repeat (first | (with_reducible first | exact HB.out | apply below_alloc | apply pw_below_drewN | apply below_drew1) | exact HB.out))) : w.heap.size ≤ gb134)); have n3_ := Aside0.mk ((by rw [hg]; exact (below_size (by repeat (first | (with_reducible first | exact HB.out | apply below_alloc | apply pw_below_drewN | apply below_drew1) | exact HB.out))) : w.heap.size ≤ gb134)); clear HB; have HB := n0_; have BK134 := n1_; have GW134 := n2_; have GE134 := n3_; clear n0_ n1_ n2_ n3_; clear hb hbox hg))
 (try simp only [Act.put, List.setIfInBounds_toArray, List.set_cons_zero, List.set_cons_succ])
 go_cut [28] (fun v28 wc => ∃ (kq : Nat) (x28_1 : Bool), v28 = .bool x28_1 ∧ Aside0 (raster_Grid_right.j0 kq x28_1 a0_0 a0_1 a0_2 a0_3 a0_4 = some r) ∧ Aside0 (kq ≤ k) ∧ Aside0 (wc.heap[gb134]? = some (.cells #[.int .i64 a0_0, .int .i64 a0_1, .int .i64 a0_2, .int .i64 a0_3, .int .i64 a0_4] 44 (0, 0))) ∧ Aside0 (Below w.heap.size w wc))
 case first =>
  have H := HC2.out
  clear HC2
  by_cases c4 : a0_3 < 1
  ·rw [if_pos c4] at H
   have c4b0 : decide (a0_3 < 1) = true := decide_eq_true c4
   clear c4
   (first | rw [c4b0] | (simp only [i64_w, i32_w]; rw [c4b0]) | skip)
   have H' := Aside0.mk H
   clear H
   have hcz5_0 : w3.cell? ⟨gb134, 0, none⟩ = some (.int .i64 a0_0) := (blk_cell BK134.out 0).trans rfl
   have hcz5_1 : w3.cell? ⟨gb134, 1, none⟩ = some (.int .i64 a0_1) := (blk_cell BK134.out 1).trans rfl
   have hcz5_2 : w3.cell? ⟨gb134, 2, none⟩ = some (.int .i64 a0_2) := (blk_cell BK134.out 2).trans rfl
   have hcz5_3 : w3.cell? ⟨gb134, 3, none⟩ = some (.int .i64 a0_3) := (blk_cell BK134.out 3).trans rfl
   have hcz5_4 : w3.cell? ⟨gb134, 4, none⟩ = some (.int .i64 a0_4) := (blk_cell BK134.out 4).trans rfl
   have hfz5_0 := blk_frozen BK134.out 0
   have hfz5_1 := blk_frozen BK134.out 1
   have hfz5_2 := blk_frozen BK134.out 2
   have hfz5_3 := blk_frozen BK134.out 3
   have hfz5_4 := blk_frozen BK134.out 4
   go_wp2
   go_meet
   case rel => exact ⟨_, (true), (by first | rfl | (simp; done) | (simp [*]; done)), H', ⟨by first | omega | exact Nat.le_refl _⟩, ⟨by (with_reducible repeat (first | refine blk_drewN ?_ _ | refine blk_drew ?_ | refine blk_alloc ?_ _)); exact BK134.out⟩, ⟨by repeat (first | (with_reducible first | exact HB.out | apply below_alloc | apply pw_below_drewN | apply below_drew1 | refine below_set ?_ GE134.out) | exact HB.out)⟩⟩
  ·rw [if_neg c4] at H
   have c4b0 : decide (a0_3 < 1) = false := decide_eq_false c4
   clear c4
   (first | rw [c4b0] | (simp only [i64_w, i32_w]; rw [c4b0]) | skip)
   by_cases c6 : a0_4 < 1
   ·rw [if_pos c6] at H
    have c6b0 : decide (a0_4 < 1) = true := decide_eq_true c6
    clear c6
    have H' := Aside0.mk H
    clear H
    have hcz7_0 : w3.cell? ⟨gb134, 0, none⟩ = some (.int .i64 a0_0) := (blk_cell BK134.out 0).trans rfl
    have hcz7_1 : w3.cell? ⟨gb134, 1, none⟩ = some (.int .i64 a0_1) := (blk_cell BK134.out 1).trans rfl
    have hcz7_2 : w3.cell? ⟨gb134, 2, none⟩ = some (.int .i64 a0_2) := (blk_cell BK134.out 2).trans rfl
    have hcz7_3 : w3.cell? ⟨gb134, 3, none⟩ = some (.int .i64 a0_3) := (blk_cell BK134.out 3).trans rfl
    have hcz7_4 : w3.cell? ⟨gb134, 4, none⟩ = some (.int .i64 a0_4) := (blk_cell BK134.out 4).trans rfl
    have hfz7_0 := blk_frozen BK134.out 0
    have hfz7_1 := blk_frozen BK134.out 1
    have hfz7_2 := blk_frozen BK134.out 2
    have hfz7_3 := blk_frozen BK134.out 3
    have hfz7_4 := blk_frozen BK134.out 4
    go_wp2
    go_meet
    case rel => exact ⟨_, (true), (by first | rfl | (simp; done) | (simp [*]; done)), H', ⟨by first | omega | exact Nat.le_refl _⟩, ⟨by (with_reducible repeat (first | refine blk_drewN ?_ _ | refine blk_drew ?_ | refine blk_alloc ?_ _)); exact BK134.out⟩, ⟨by repeat (first | (with_reducible first | exact HB.out | apply below_alloc | apply pw_below_drewN | apply below_drew1 | refine below_set ?_ GE134.out) | exact HB.out)⟩⟩
   ·rw [if_neg c6] at H
    have c6b0 : decide (a0_4 < 1) = false := decide_eq_false c6
    clear c6
    by_cases c8 : a0_3 > 4096
    ·rw [if_pos c8] at H
     have c8b0 : decide (4096 < a0_3) = true := decide_eq_true c8
     clear c8
     have H' := Aside0.mk H
     clear H
     have hcz9_0 : w3.cell? ⟨gb134, 0, none⟩ = some (.int .i64 a0_0) := (blk_cell BK134.out 0).trans rfl
     have hcz9_1 : w3.cell? ⟨gb134, 1, none⟩ = some (.int .i64 a0_1) := (blk_cell BK134.out 1).trans rfl
     have hcz9_2 : w3.cell? ⟨gb134, 2, none⟩ = some (.int .i64 a0_2) := (blk_cell BK134.out 2).trans rfl
     have hcz9_3 : w3.cell? ⟨gb134, 3, none⟩ = some (.int .i64 a0_3) := (blk_cell BK134.out 3).trans rfl
     have hcz9_4 : w3.cell? ⟨gb134, 4, none⟩ = some (.int .i64 a0_4) := (blk_cell BK134.out 4).trans rfl
     have hfz9_0 := blk_frozen BK134.out 0
     have hfz9_1 := blk_frozen BK134.out 1
     have hfz9_2 := blk_frozen BK134.out 2
     have hfz9_3 := blk_frozen BK134.out 3
     have hfz9_4 := blk_frozen BK134.out 4
     go_wp2
     go_meet
     case rel => exact ⟨_, (true), (by first | rfl | (simp; done) | (simp [*]; done)), H', ⟨by first | omega | exact Nat.le_refl _⟩, ⟨by (with_reducible repeat (first | refine blk_drewN ?_ _ | refine blk_drew ?_ | refine blk_alloc ?_ _)); exact BK134.out⟩, ⟨by repeat (first | (with_reducible first | exact HB.out | apply below_alloc | apply pw_below_drewN | apply below_drew1 | refine below_set ?_ GE134.out) | exact HB.out)⟩⟩
    ·rw [if_neg c8] at H
     have c8b0 : decide (4096 < a0_3) = false := decide_eq_false c8
     clear c8
     by_cases c10 : a0_4 > 4096
     ·rw [if_pos c10] at H
      have c10b0 : decide (4096 < a0_4) = true := decide_eq_true c10
      clear c10
      have H' := Aside0.mk H
      clear H
      have hcz11_0 : w3.cell? ⟨gb134, 0, none⟩ = some (.int .i64 a0_0) := (blk_cell BK134.out 0).trans rfl
      have hcz11_1 : w3.cell? ⟨gb134, 1, none⟩ = some (.int .i64 a0_1) := (blk_cell BK134.out 1).trans rfl
      have hcz11_2 : w3.cell? ⟨gb134, 2, none⟩ = some (.int .i64 a0_2) := (blk_cell BK134.out 2).trans rfl
      have hcz11_3 : w3.cell? ⟨gb134, 3, none⟩ = some (.int .i64 a0_3) := (blk_cell BK134.out 3).trans rfl
      have hcz11_4 : w3.cell? ⟨gb134, 4, none⟩ = some (.int .i64 a0_4) := (blk_cell BK134.out 4).trans rfl
      have hfz11_0 := blk_frozen BK134.out 0
      have hfz11_1 := blk_frozen BK134.out 1
      have hfz11_2 := blk_frozen BK134.out 2
      have hfz11_3 := blk_frozen BK134.out 3
      have hfz11_4 := blk_frozen BK134.out 4
      go_wp2
      go_meet
      case rel => exact ⟨_, (true), (by first | rfl | (simp; done) | (simp [*]; done)), H', ⟨by first | omega | exact Nat.le_refl _⟩, ⟨by (with_reducible repeat (first | refine blk_drewN ?_ _ | refine blk_drew ?_ | refine blk_alloc ?_ _)); exact BK134.out⟩, ⟨by repeat (first | (with_reducible first | exact HB.out | apply below_alloc | apply pw_below_drewN | apply below_drew1 | refine below_set ?_ GE134.out) | exact HB.out)⟩⟩
     ·rw [if_neg c10] at H
      have c10b0 : decide (4096 < a0_4) = false := decide_eq_false c10
      clear c10
      have H' := Aside0.mk H
      clear H
      have hcz12_0 : w3.cell? ⟨gb134, 0, none⟩ = some (.int .i64 a0_0) := (blk_cell BK134.out 0).trans rfl
      have hcz12_1 : w3.cell? ⟨gb134, 1, none⟩ = some (.int .i64 a0_1) := (blk_cell BK134.out 1).trans rfl
      have hcz12_2 : w3.cell? ⟨gb134, 2, none⟩ = some (.int .i64 a0_2) := (blk_cell BK134.out 2).trans rfl
      have hcz12_3 : w3.cell? ⟨gb134, 3, none⟩ = some (.int .i64 a0_3) := (blk_cell BK134.out 3).trans rfl
      have hcz12_4 : w3.cell? ⟨gb134, 4, none⟩ = some (.int .i64 a0_4) := (blk_cell BK134.out 4).trans rfl
      have hfz12_0 := blk_frozen BK134.out 0
      have hfz12_1 := blk_frozen BK134.out 1
      have hfz12_2 := blk_frozen BK134.out 2
      have hfz12_3 := blk_frozen BK134.out 3
      have hfz12_4 := blk_frozen BK134.out 4
      go_wp2
      go_meet
      case rel => exact ⟨_, (decide ((wrap64 (a0_3 * a0_4)) > 4096)), (by first | rfl | (simp; done) | (simp [*]; done)), H', ⟨by first | omega | exact Nat.le_refl _⟩, ⟨by (with_reducible repeat (first | refine blk_drewN ?_ _ | refine blk_drew ?_ | refine blk_alloc ?_ _)); exact BK134.out⟩, ⟨by repeat (first | (with_reducible first | exact HB.out | apply below_alloc | apply pw_below_drewN | apply below_drew1 | refine below_set ?_ GE134.out) | exact HB.out)⟩⟩
 case rest =>
  clear HC2
  try clear c1
  try clear p2
  try clear c4
  try clear c4b0
  try clear c6
  try clear c6b0
  try clear p6
  try clear c8
  try clear c8b0
  try clear c10
  try clear c10b0
  try clear hcz11_0
  try clear hcz11_1
  try clear hcz11_2
  try clear hcz11_3
  try clear hcz11_4
  try clear hcz12_0
  try clear hcz12_1
  try clear hcz12_2
  try clear hcz12_3
  try clear hcz12_4
  try clear hcz5_0
  try clear hcz5_1
  try clear hcz5_2
  try clear hcz5_3
  try clear hcz5_4
  try clear hcz7_0
  try clear hcz7_1
  try clear hcz7_2
  try clear hcz7_3
  try clear hcz7_4
  try clear hcz9_0
  try clear hcz9_1
  try clear hcz9_2
  try clear hcz9_3
  try clear hcz9_4
  try clear hfz11_0
  try clear hfz11_1
  try clear hfz11_2
  try clear hfz11_3
  try clear hfz11_4
  try clear hfz12_0
  try clear hfz12_1
  try clear hfz12_2
  try clear hfz12_3
  try clear hfz12_4
  try clear hfz5_0
  try clear hfz5_1
  try clear hfz5_2
  try clear hfz5_3
  try clear hfz5_4
  try clear hfz7_0
  try clear hfz7_1
  try clear hfz7_2
  try clear hfz7_3
  try clear hfz7_4
  try clear hfz9_0
  try clear hfz9_1
  try clear hfz9_2
  try clear hfz9_3
  try clear hfz9_4
  obtain ⟨kq, x28_1, rfl, HA, HJ1, BK134, HB⟩ := hcut
  cases kq with
  | zero => exact absurd HA.out (by simp [raster_Grid_right.j0])
  | succ kj1 =>
   have H := HA.out
   clear HA
   simp only [raster_Grid_right.j0] at H
   by_cases c13 : x28_1 = true
   ·subst c13
    have H1 : (some false) = some r := by rw [if_pos rfl] at H; exact H
    clear H
    have H := H1
    clear H1
    obtain rfl := Option.some.inj H
    go_wp2
    go_ret
    exact ⟨by first | rfl | (simp [errW_none, errW_some] <;> rfl) | (simp [*, errW_none, errW_some] <;> rfl), by repeat (first | (with_reducible first | exact HB.out | apply below_alloc | apply pw_below_drewN | apply below_drew1 | refine below_set ?_ GE134.out) | exact HB.out)⟩
   ·replace c13 := Bool.eq_false_iff.mpr c13
    subst c13
    have H1 : (if a0_2 ≥ 1 then (if a0_2 ≤ 1099511627776 then ((raster_within.f a0_0 1099511627776).bind fun t135 => (if t135 = true then ((raster_within.f a0_1 1099511627776).bind fun t136 => (some t136)) else (some false))) else (some false)) else (some false)) = some r := by rw [if_neg (show ¬ (false = true) by decide)] at H; exact H
    clear H
    have H := H1
    clear H1
    by_cases c14 : a0_2 ≥ 1
    ·rw [if_pos c14] at H
     have c14b0 : decide (1 ≤ a0_2) = true := decide_eq_true c14
     clear c14
     by_cases c15 : a0_2 ≤ 1099511627776
     ·rw [if_pos c15] at H
      have c15b0 : decide (a0_2 ≤ 1099511627776) = true := decide_eq_true c15
      clear c15
      replace H := Option.bind_eq_some_iff.mp H
      obtain ⟨t135, A160, H⟩ := H
      replace H : (if t135 = true then ((raster_within.f a0_1 1099511627776).bind fun t136 => (some t136)) else (some false)) = some r := H
      have A16 := Aside0.mk A160
      clear A160
      by_cases c17 : t135 = true
      ·subst c17
       have H1 : ((raster_within.f a0_1 1099511627776).bind fun t136 => (some t136)) = some r := by rw [if_pos rfl] at H; exact H
       clear H
       have H := H1
       clear H1
       replace H := Option.bind_eq_some_iff.mp H
       obtain ⟨t136, A180, H⟩ := H
       replace H : (some t136) = some r := H
       have A18 := Aside0.mk A180
       clear A180
       obtain rfl := Option.some.inj H
       have hcz19_0 : wc.cell? ⟨gb134, 0, none⟩ = some (.int .i64 a0_0) := (blk_cell BK134.out 0).trans rfl
       have hcz19_1 : wc.cell? ⟨gb134, 1, none⟩ = some (.int .i64 a0_1) := (blk_cell BK134.out 1).trans rfl
       have hcz19_2 : wc.cell? ⟨gb134, 2, none⟩ = some (.int .i64 a0_2) := (blk_cell BK134.out 2).trans rfl
       have hcz19_3 : wc.cell? ⟨gb134, 3, none⟩ = some (.int .i64 a0_3) := (blk_cell BK134.out 3).trans rfl
       have hcz19_4 : wc.cell? ⟨gb134, 4, none⟩ = some (.int .i64 a0_4) := (blk_cell BK134.out 4).trans rfl
       have hfz19_0 := blk_frozen BK134.out 0
       have hfz19_1 := blk_frozen BK134.out 1
       have hfz19_2 := blk_frozen BK134.out 2
       have hfz19_3 := blk_frozen BK134.out 3
       have hfz19_4 := blk_frozen BK134.out 4
       go_wp2_with (first | (go_at_call 61; (with_reducible refine (raster_within.calls a0_0 1099511627776 true _ A16.out).mono ?_); rintro e w' ⟨rfl, ⟨nd, rfl⟩⟩) | (go_at_call 61; (with_reducible refine (raster_within.calls a0_1 1099511627776 t136 _ A18.out).mono ?_); rintro e w' ⟨rfl, ⟨nd, rfl⟩⟩))
       go_ret
       exact ⟨by first | rfl | (simp [errW_none, errW_some] <;> rfl) | (simp [*, errW_none, errW_some] <;> rfl), by repeat (first | (with_reducible first | exact HB.out | apply below_alloc | apply pw_below_drewN | apply below_drew1 | refine below_set ?_ GE134.out) | exact HB.out)⟩
      ·replace c17 := Bool.eq_false_iff.mpr c17
       subst c17
       have H1 : (some false) = some r := by rw [if_neg (show ¬ (false = true) by decide)] at H; exact H
       clear H
       have H := H1
       clear H1
       obtain rfl := Option.some.inj H
       have hcz20_0 : wc.cell? ⟨gb134, 0, none⟩ = some (.int .i64 a0_0) := (blk_cell BK134.out 0).trans rfl
       have hcz20_1 : wc.cell? ⟨gb134, 1, none⟩ = some (.int .i64 a0_1) := (blk_cell BK134.out 1).trans rfl
       have hcz20_2 : wc.cell? ⟨gb134, 2, none⟩ = some (.int .i64 a0_2) := (blk_cell BK134.out 2).trans rfl
       have hcz20_3 : wc.cell? ⟨gb134, 3, none⟩ = some (.int .i64 a0_3) := (blk_cell BK134.out 3).trans rfl
       have hcz20_4 : wc.cell? ⟨gb134, 4, none⟩ = some (.int .i64 a0_4) := (blk_cell BK134.out 4).trans rfl
       have hfz20_0 := blk_frozen BK134.out 0
       have hfz20_1 := blk_frozen BK134.out 1
       have hfz20_2 := blk_frozen BK134.out 2
       have hfz20_3 := blk_frozen BK134.out 3
       have hfz20_4 := blk_frozen BK134.out 4
       go_wp2_with (first | (go_at_call 61; (with_reducible refine (raster_within.calls a0_0 1099511627776 false _ A16.out).mono ?_); rintro e w' ⟨rfl, ⟨nd, rfl⟩⟩))
       go_ret
       exact ⟨by first | rfl | (simp [errW_none, errW_some] <;> rfl) | (simp [*, errW_none, errW_some] <;> rfl), by repeat (first | (with_reducible first | exact HB.out | apply below_alloc | apply pw_below_drewN | apply below_drew1 | refine below_set ?_ GE134.out) | exact HB.out)⟩
     ·rw [if_neg c15] at H
      have c15b0 : decide (a0_2 ≤ 1099511627776) = false := decide_eq_false c15
      clear c15
      obtain rfl := Option.some.inj H
      have hcz21_0 : wc.cell? ⟨gb134, 0, none⟩ = some (.int .i64 a0_0) := (blk_cell BK134.out 0).trans rfl
      have hcz21_1 : wc.cell? ⟨gb134, 1, none⟩ = some (.int .i64 a0_1) := (blk_cell BK134.out 1).trans rfl
      have hcz21_2 : wc.cell? ⟨gb134, 2, none⟩ = some (.int .i64 a0_2) := (blk_cell BK134.out 2).trans rfl
      have hcz21_3 : wc.cell? ⟨gb134, 3, none⟩ = some (.int .i64 a0_3) := (blk_cell BK134.out 3).trans rfl
      have hcz21_4 : wc.cell? ⟨gb134, 4, none⟩ = some (.int .i64 a0_4) := (blk_cell BK134.out 4).trans rfl
      have hfz21_0 := blk_frozen BK134.out 0
      have hfz21_1 := blk_frozen BK134.out 1
      have hfz21_2 := blk_frozen BK134.out 2
      have hfz21_3 := blk_frozen BK134.out 3
      have hfz21_4 := blk_frozen BK134.out 4
      go_wp2
      go_ret
      exact ⟨by first | rfl | (simp [errW_none, errW_some] <;> rfl) | (simp [*, errW_none, errW_some] <;> rfl), by repeat (first | (with_reducible first | exact HB.out | apply below_alloc | apply pw_below_drewN | apply below_drew1 | refine below_set ?_ GE134.out) | exact HB.out)⟩
    ·rw [if_neg c14] at H
     have c14b0 : decide (1 ≤ a0_2) = false := decide_eq_false c14
     clear c14
     obtain rfl := Option.some.inj H
     have hcz22_0 : wc.cell? ⟨gb134, 0, none⟩ = some (.int .i64 a0_0) := (blk_cell BK134.out 0).trans rfl
     have hcz22_1 : wc.cell? ⟨gb134, 1, none⟩ = some (.int .i64 a0_1) := (blk_cell BK134.out 1).trans rfl
     have hcz22_2 : wc.cell? ⟨gb134, 2, none⟩ = some (.int .i64 a0_2) := (blk_cell BK134.out 2).trans rfl
     have hcz22_3 : wc.cell? ⟨gb134, 3, none⟩ = some (.int .i64 a0_3) := (blk_cell BK134.out 3).trans rfl
     have hcz22_4 : wc.cell? ⟨gb134, 4, none⟩ = some (.int .i64 a0_4) := (blk_cell BK134.out 4).trans rfl
     have hfz22_0 := blk_frozen BK134.out 0
     have hfz22_1 := blk_frozen BK134.out 1
     have hfz22_2 := blk_frozen BK134.out 2
     have hfz22_3 := blk_frozen BK134.out 3
     have hfz22_4 := blk_frozen BK134.out 4
     go_wp2
     go_ret
     exact ⟨by first | rfl | (simp [errW_none, errW_some] <;> rfl) | (simp [*, errW_none, errW_some] <;> rfl), by repeat (first | (with_reducible first | exact HB.out | apply below_alloc | apply pw_below_drewN | apply below_drew1 | refine below_set ?_ GE134.out) | exact HB.out)⟩

end Go.Proofs.Ytppklhfiajjhmaa.PRasterShifts
