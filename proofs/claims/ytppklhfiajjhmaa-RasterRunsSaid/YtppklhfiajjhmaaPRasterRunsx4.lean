-- written by a program of this session (a turned copy of the print)
import Derived.Test.YtppklhfiajjhmaaPRasterRunsx0
import Derived.Test.YtppklhfiajjhmaaPRasterRunsx1
import Derived.Test.YtppklhfiajjhmaaPRasterRunsx2
import Derived.Test.YtppklhfiajjhmaaPRasterRunsx3
namespace Go.Proofs.Ytppklhfiajjhmaa.PRasterRuns
open Go.RowKit Go.Proofs.YtppklhfiajjhmaaW.PrintWords Go.Proofs.YtppklhfiajjhmaaW.PrintLast Go.Proofs.YtppklhfiajjhmaaW.PrintMore
attribute [local go_sem] max2_int min2_int max_two min_two max_three min_three max_four min_four   -- for this text's walks alone
set_option linter.unusedVariables false
set_option linter.unusedSimpArgs false

/-! ### decoupagelaw28_RasterRuns: function 8 -/
mutual
def decoupagelaw28_RasterRuns.j0 : Nat → List (S39) → Int → Int → Int → Int → Bool → Option (Bool)
  | 0, _, _, _, _, _, _ => none
  | k + 1, x0, x1, x2, x3, x4, x21 => if x21 = true then ((decoupagelaw28_awake.f k).bind fun t172 => (some t172)) else ((raster_Runs.f k x0 x1 x2 x3).bind fun t173 => (decoupagelaw28_RasterRuns.l0 k x0 x1 x2 x3 x4 t173 (-1) (t173.length : Int) 0))
def decoupagelaw28_RasterRuns.l0 : Nat → List (S39) → Int → Int → Int → Int → List (S56) → Int → Int → Int → Option (Bool)
  | 0, _, _, _, _, _, _, _, _, _ => none
  | k + 1, x0, x1, x2, x3, x4, x11, x12, x29, x30 => if x30 < x29 then (if 0 ≤ x30 then (if x30 < (x11.length : Int) then (if ((rd_T56 x11 x30).f0) < x2 then (decoupagelaw28_RasterRuns.j2 k x0 x1 x2 x3 x4 x11 x12 x29 x30 true ((rd_T56 x11 x30).f0) ((rd_T56 x11 x30).f1) ((rd_T56 x11 x30).f2)) else (if ((rd_T56 x11 x30).f1) > x3 then (decoupagelaw28_RasterRuns.j2 k x0 x1 x2 x3 x4 x11 x12 x29 x30 true ((rd_T56 x11 x30).f0) ((rd_T56 x11 x30).f1) ((rd_T56 x11 x30).f2)) else (if ((rd_T56 x11 x30).f0) ≥ ((rd_T56 x11 x30).f1) then (decoupagelaw28_RasterRuns.j2 k x0 x1 x2 x3 x4 x11 x12 x29 x30 true ((rd_T56 x11 x30).f0) ((rd_T56 x11 x30).f1) ((rd_T56 x11 x30).f2)) else (if ((rd_T56 x11 x30).f2) < 0 then (decoupagelaw28_RasterRuns.j2 k x0 x1 x2 x3 x4 x11 x12 x29 x30 true ((rd_T56 x11 x30).f0) ((rd_T56 x11 x30).f1) ((rd_T56 x11 x30).f2)) else (if ((rd_T56 x11 x30).f2) ≥ (x0.length : Int) then (decoupagelaw28_RasterRuns.j2 k x0 x1 x2 x3 x4 x11 x12 x29 x30 true ((rd_T56 x11 x30).f0) ((rd_T56 x11 x30).f1) ((rd_T56 x11 x30).f2)) else (if x30 > 0 then (if 0 ≤ (wrap64 (x30 - 1)) then (if (wrap64 (x30 - 1)) < (x11.length : Int) then (if ((rd_T56 x11 (wrap64 (x30 - 1))).f1) > ((rd_T56 x11 x30).f0) then (decoupagelaw28_RasterRuns.j2 k x0 x1 x2 x3 x4 x11 x12 x29 x30 true ((rd_T56 x11 x30).f0) ((rd_T56 x11 x30).f1) ((rd_T56 x11 x30).f2)) else (if ((rd_T56 x11 (wrap64 (x30 - 1))).f1) = ((rd_T56 x11 x30).f0) then (decoupagelaw28_RasterRuns.j2 k x0 x1 x2 x3 x4 x11 x12 x29 x30 (((rd_T56 x11 (wrap64 (x30 - 1))).f2) == ((rd_T56 x11 x30).f2)) ((rd_T56 x11 x30).f0) ((rd_T56 x11 x30).f1) ((rd_T56 x11 x30).f2)) else (decoupagelaw28_RasterRuns.j2 k x0 x1 x2 x3 x4 x11 x12 x29 x30 false ((rd_T56 x11 x30).f0) ((rd_T56 x11 x30).f1) ((rd_T56 x11 x30).f2)))) else (none)) else (none)) else (decoupagelaw28_RasterRuns.j2 k x0 x1 x2 x3 x4 x11 x12 x29 x30 false ((rd_T56 x11 x30).f0) ((rd_T56 x11 x30).f1) ((rd_T56 x11 x30).f2)))))))) else (none)) else (none)) else (if x4 < x2 then (some true) else (if x4 ≥ x3 then (some true) else ((decoupageref26_Owner.f k x0 x4 x1).bind fun t176 => (some (x12 == t176)))))
def decoupagelaw28_RasterRuns.j2 : Nat → List (S39) → Int → Int → Int → Int → List (S56) → Int → Int → Int → Bool → Int → Int → Int → Option (Bool)
  | 0, _, _, _, _, _, _, _, _, _, _, _, _, _ => none
  | k + 1, x0, x1, x2, x3, x4, x11, x12, x29, x30, x102, x179000, x179001, x179002 => if x102 = true then (some false) else (if x4 ≥ x179000 then (if x4 < x179001 then (decoupagelaw28_RasterRuns.l0 k x0 x1 x2 x3 x4 x11 x179002 x29 (wrap64 (x30 + 1))) else (decoupagelaw28_RasterRuns.l0 k x0 x1 x2 x3 x4 x11 x12 x29 (wrap64 (x30 + 1)))) else (decoupagelaw28_RasterRuns.l0 k x0 x1 x2 x3 x4 x11 x12 x29 (wrap64 (x30 + 1))))
end
def decoupagelaw28_RasterRuns.f (k : Nat) (l0 : List (S39)) (a1 : Int) (a2 : Int) (a3 : Int) (a4 : Int) : Option (Bool) := (decoupagelaw28_awake.f k).bind fun t171 => (if t171 = true then (decoupagelaw28_RasterRuns.j0 k l0 a1 a2 a3 a4 (decide ((l0.length : Int) > 30))) else (decoupagelaw28_RasterRuns.j0 k l0 a1 a2 a3 a4 true))
theorem decoupagelaw28_RasterRuns.mono_l : ∀ k, (∀ y0 y1 y2 y3 y4 y5, LeO (decoupagelaw28_RasterRuns.j0 k y0 y1 y2 y3 y4 y5) (decoupagelaw28_RasterRuns.j0 (k + 1) y0 y1 y2 y3 y4 y5)) ∧ (∀ y0 y1 y2 y3 y4 y5 y6 y7 y8, LeO (decoupagelaw28_RasterRuns.l0 k y0 y1 y2 y3 y4 y5 y6 y7 y8) (decoupagelaw28_RasterRuns.l0 (k + 1) y0 y1 y2 y3 y4 y5 y6 y7 y8)) ∧ (∀ y0 y1 y2 y3 y4 y5 y6 y7 y8 y9 y10 y11 y12, LeO (decoupagelaw28_RasterRuns.j2 k y0 y1 y2 y3 y4 y5 y6 y7 y8 y9 y10 y11 y12) (decoupagelaw28_RasterRuns.j2 (k + 1) y0 y1 y2 y3 y4 y5 y6 y7 y8 y9 y10 y11 y12))
  | 0 => ⟨fun _ _ _ _ _ _ r h => by simp [decoupagelaw28_RasterRuns.j0] at h, fun _ _ _ _ _ _ _ _ _ r h => by simp [decoupagelaw28_RasterRuns.l0] at h, fun _ _ _ _ _ _ _ _ _ _ _ _ _ r h => by simp [decoupagelaw28_RasterRuns.j2] at h⟩
  | k + 1 => by
    obtain ⟨ih0, ih1, ih2⟩ := decoupagelaw28_RasterRuns.mono_l k
    refine ⟨?_, ?_, ?_⟩
    · intro y0 y1 y2 y3 y4 y5
      unfold decoupagelaw28_RasterRuns.j0
      repeat' first
      | (with_reducible exact ih0 _ _ _ _ _ _)
      | (with_reducible exact ih1 _ _ _ _ _ _ _ _ _)
      | (with_reducible exact ih2 _ _ _ _ _ _ _ _ _ _ _ _ _)
      | (with_reducible exact decoupagelaw28_awake.mono _)
      | (with_reducible exact decoupageref26_Owner.mono _ _ _ _)
      | (with_reducible exact raster_Runs.mono _ _ _ _ _)
      | (with_reducible exact LeO.refl _)
      | (with_reducible exact LeO.none _)
      | (with_reducible refine LeO.ite ?_ ?_)
      | (with_reducible refine LeO.bind ?_ (fun _ => ?_))
      | exact ih0 _ _ _ _ _ _
      | exact ih1 _ _ _ _ _ _ _ _ _
      | exact ih2 _ _ _ _ _ _ _ _ _ _ _ _ _
      | exact decoupagelaw28_awake.mono _
      | exact decoupageref26_Owner.mono _ _ _ _
      | exact raster_Runs.mono _ _ _ _ _
      | exact LeO.none _
      | refine LeO.ite ?_ ?_
      | refine LeO.bind ?_ (fun _ => ?_)
    · intro y0 y1 y2 y3 y4 y5 y6 y7 y8
      unfold decoupagelaw28_RasterRuns.l0
      repeat' first
      | (with_reducible exact ih0 _ _ _ _ _ _)
      | (with_reducible exact ih1 _ _ _ _ _ _ _ _ _)
      | (with_reducible exact ih2 _ _ _ _ _ _ _ _ _ _ _ _ _)
      | (with_reducible exact decoupagelaw28_awake.mono _)
      | (with_reducible exact decoupageref26_Owner.mono _ _ _ _)
      | (with_reducible exact raster_Runs.mono _ _ _ _ _)
      | (with_reducible exact LeO.refl _)
      | (with_reducible exact LeO.none _)
      | (with_reducible refine LeO.ite ?_ ?_)
      | (with_reducible refine LeO.bind ?_ (fun _ => ?_))
      | exact ih0 _ _ _ _ _ _
      | exact ih1 _ _ _ _ _ _ _ _ _
      | exact ih2 _ _ _ _ _ _ _ _ _ _ _ _ _
      | exact decoupagelaw28_awake.mono _
      | exact decoupageref26_Owner.mono _ _ _ _
      | exact raster_Runs.mono _ _ _ _ _
      | exact LeO.none _
      | refine LeO.ite ?_ ?_
      | refine LeO.bind ?_ (fun _ => ?_)
    · intro y0 y1 y2 y3 y4 y5 y6 y7 y8 y9 y10 y11 y12
      unfold decoupagelaw28_RasterRuns.j2
      repeat' first
      | (with_reducible exact ih0 _ _ _ _ _ _)
      | (with_reducible exact ih1 _ _ _ _ _ _ _ _ _)
      | (with_reducible exact ih2 _ _ _ _ _ _ _ _ _ _ _ _ _)
      | (with_reducible exact decoupagelaw28_awake.mono _)
      | (with_reducible exact decoupageref26_Owner.mono _ _ _ _)
      | (with_reducible exact raster_Runs.mono _ _ _ _ _)
      | (with_reducible exact LeO.refl _)
      | (with_reducible exact LeO.none _)
      | (with_reducible refine LeO.ite ?_ ?_)
      | (with_reducible refine LeO.bind ?_ (fun _ => ?_))
      | exact ih0 _ _ _ _ _ _
      | exact ih1 _ _ _ _ _ _ _ _ _
      | exact ih2 _ _ _ _ _ _ _ _ _ _ _ _ _
      | exact decoupagelaw28_awake.mono _
      | exact decoupageref26_Owner.mono _ _ _ _
      | exact raster_Runs.mono _ _ _ _ _
      | exact LeO.none _
      | refine LeO.ite ?_ ?_
      | refine LeO.bind ?_ (fun _ => ?_)
theorem decoupagelaw28_RasterRuns.mono : ∀ a0 a1 a2 a3 a4 k, LeO (decoupagelaw28_RasterRuns.f k a0 a1 a2 a3 a4) (decoupagelaw28_RasterRuns.f (k + 1) a0 a1 a2 a3 a4) := by
  intro a0 a1 a2 a3 a4 k
  obtain ⟨ih0, ih1, ih2⟩ := decoupagelaw28_RasterRuns.mono_l k
  unfold decoupagelaw28_RasterRuns.f
  repeat' first
      | (with_reducible exact ih0 _ _ _ _ _ _)
      | (with_reducible exact ih1 _ _ _ _ _ _ _ _ _)
      | (with_reducible exact ih2 _ _ _ _ _ _ _ _ _ _ _ _ _)
      | (with_reducible exact decoupagelaw28_awake.mono _)
      | (with_reducible exact decoupageref26_Owner.mono _ _ _ _)
      | (with_reducible exact raster_Runs.mono _ _ _ _ _)
      | (with_reducible exact LeO.refl _)
      | (with_reducible exact LeO.none _)
      | (with_reducible refine LeO.ite ?_ ?_)
      | (with_reducible refine LeO.bind ?_ (fun _ => ?_))
      | exact ih0 _ _ _ _ _ _
      | exact ih1 _ _ _ _ _ _ _ _ _
      | exact ih2 _ _ _ _ _ _ _ _ _ _ _ _ _
      | exact decoupagelaw28_awake.mono _
      | exact decoupageref26_Owner.mono _ _ _ _
      | exact raster_Runs.mono _ _ _ _ _
      | exact LeO.none _
      | refine LeO.ite ?_ ?_
      | refine LeO.bind ?_ (fun _ => ?_)
set_option maxHeartbeats 8000000 in
set_option maxRecDepth 100000 in
theorem decoupagelaw28_RasterRuns.calls (k : Nat) (A0 : Option Addr) (c0 : Nat) (l0 : List (S39)) (a1 : Int) (a2 : Int) (a3 : Int) (a4 : Int) (r : Bool) (w : World) (hr0 : Kd.C k39 w A0 l0.length l0) (hc0 : l0.length ≤ c0) (h : decoupagelaw28_RasterRuns.f k l0 a1 a2 a3 a4 = some r) :
    Calls Try.prog 8 #[.slice A0 l0.length c0, .int .i64 a1, .int .i64 a2, .int .i64 a3, .int .i64 a4] w fun e w' => e = .returned (.bool r) ∧ Below w.heap.size w w' := by
  have hu56 := Try.underlying56
  have HR0 := Aside0.mk hr0
  have HC0 := Aside0.mk hc0
  clear hr0 hc0
  have HB := Aside0.mk (Below.refl w.heap.size w)
  have H : ((decoupagelaw28_awake.f k).bind fun t171 => (if t171 = true then (decoupagelaw28_RasterRuns.j0 k l0 a1 a2 a3 a4 (decide ((l0.length : Int) > 30))) else (decoupagelaw28_RasterRuns.j0 k l0 a1 a2 a3 a4 true))) = some r := h
  clear h
  have HC6 := Aside0.mk H
  clear H
  go_enter Try.func8, Try.ntmps8
  go_upto_region 1 with (fail)
  repeat (go_quiet (fail); go_upto_region 1 with (fail))
  go_cut [21] (fun v21 wc => ∃ (kq : Nat) (x21_5 : Bool), v21 = .bool x21_5 ∧ Aside0 (decoupagelaw28_RasterRuns.j0 kq l0 a1 a2 a3 a4 x21_5 = some r) ∧ Aside0 (kq ≤ k) ∧ Aside0 (Below w.heap.size w wc))
  case first =>
    have H := HC6.out
    clear HC6
    replace H := Option.bind_eq_some_iff.mp H
    obtain ⟨t171, A70, H⟩ := H
    replace H : (if t171 = true then (decoupagelaw28_RasterRuns.j0 k l0 a1 a2 a3 a4 (decide ((l0.length : Int) > 30))) else (decoupagelaw28_RasterRuns.j0 k l0 a1 a2 a3 a4 true)) = some r := H
    have A7 := Aside0.mk A70
    clear A70
    by_cases c8 : t171 = true
    · subst c8
      have H1 : (decoupagelaw28_RasterRuns.j0 k l0 a1 a2 a3 a4 (decide ((l0.length : Int) > 30))) = some r := by rw [if_pos rfl] at H; exact H
      clear H
      have H := H1
      clear H1
      have H' := Aside0.mk H
      clear H
      go_wp2_with (first | (go_at_call 26; (with_reducible refine (decoupagelaw28_awake.calls k  true _ A7.out).mono ?_); rintro e w9 ⟨rfl, hb⟩; have n0_ := Aside0.mk (below_step (by repeat (first | (with_reducible first | exact HB.out | apply below_alloc | apply pw_below_drewN | apply below_drew1) | exact HB.out)) hb); clear HB; have HB := n0_; clear n0_; (try clear hb); (try clear hb2); (try clear hk); (try clear hi)))
      repeat (go_quiet (first | (go_at_call 26; (with_reducible refine (decoupagelaw28_awake.calls k  true _ A7.out).mono ?_); rintro e w9 ⟨rfl, hb⟩; have n0_ := Aside0.mk (below_step (by repeat (first | (with_reducible first | exact HB.out | apply below_alloc | apply pw_below_drewN | apply below_drew1) | exact HB.out)) hb); clear HB; have HB := n0_; clear n0_; (try clear hb); (try clear hb2); (try clear hk); (try clear hi))); try go_wp2_with (first | (go_at_call 26; (with_reducible refine (decoupagelaw28_awake.calls k  true _ A7.out).mono ?_); rintro e w9 ⟨rfl, hb⟩; have n0_ := Aside0.mk (below_step (by repeat (first | (with_reducible first | exact HB.out | apply below_alloc | apply pw_below_drewN | apply below_drew1) | exact HB.out)) hb); clear HB; have HB := n0_; clear n0_; (try clear hb); (try clear hb2); (try clear hk); (try clear hi))))
      go_meet
      case rel => exact ⟨_, (decide ((l0.length : Int) > 30)), (by first | rfl | (simp; done) | (simp [*]; done)), H', ⟨by first | omega | exact Nat.le_refl _⟩, ⟨by repeat (first | (with_reducible first | exact HB.out | apply below_alloc | apply pw_below_drewN | apply below_drew1) | exact HB.out)⟩⟩
    · replace c8 := Bool.eq_false_iff.mpr c8
      subst c8
      have H1 : (decoupagelaw28_RasterRuns.j0 k l0 a1 a2 a3 a4 true) = some r := by rw [if_neg (show ¬ (false = true) by decide)] at H; exact H
      clear H
      have H := H1
      clear H1
      have H' := Aside0.mk H
      clear H
      go_wp2_with (first | (go_at_call 26; (with_reducible refine (decoupagelaw28_awake.calls k  false _ A7.out).mono ?_); rintro e w10 ⟨rfl, hb⟩; have n0_ := Aside0.mk (below_step (by repeat (first | (with_reducible first | exact HB.out | apply below_alloc | apply pw_below_drewN | apply below_drew1) | exact HB.out)) hb); clear HB; have HB := n0_; clear n0_; (try clear hb); (try clear hb2); (try clear hk); (try clear hi)))
      repeat (go_quiet (first | (go_at_call 26; (with_reducible refine (decoupagelaw28_awake.calls k  false _ A7.out).mono ?_); rintro e w10 ⟨rfl, hb⟩; have n0_ := Aside0.mk (below_step (by repeat (first | (with_reducible first | exact HB.out | apply below_alloc | apply pw_below_drewN | apply below_drew1) | exact HB.out)) hb); clear HB; have HB := n0_; clear n0_; (try clear hb); (try clear hb2); (try clear hk); (try clear hi))); try go_wp2_with (first | (go_at_call 26; (with_reducible refine (decoupagelaw28_awake.calls k  false _ A7.out).mono ?_); rintro e w10 ⟨rfl, hb⟩; have n0_ := Aside0.mk (below_step (by repeat (first | (with_reducible first | exact HB.out | apply below_alloc | apply pw_below_drewN | apply below_drew1) | exact HB.out)) hb); clear HB; have HB := n0_; clear n0_; (try clear hb); (try clear hb2); (try clear hk); (try clear hi))))
      go_meet
      case rel => exact ⟨_, (true), (by first | rfl | (simp; done) | (simp [*]; done)), H', ⟨by first | omega | exact Nat.le_refl _⟩, ⟨by repeat (first | (with_reducible first | exact HB.out | apply below_alloc | apply pw_below_drewN | apply below_drew1) | exact HB.out)⟩⟩
  case rest =>
    clear HC6
    try clear p2
    try clear c8
    obtain ⟨kq, x21_5, rfl, HA, HJ5, HB⟩ := hcut
    cases kq with
    | zero => exact absurd HA.out (by simp [decoupagelaw28_RasterRuns.j0])
    | succ kj5 =>
      have H := HA.out
      clear HA
      simp only [decoupagelaw28_RasterRuns.j0] at H
      by_cases c11 : x21_5 = true
      · subst c11
        have H1 : ((decoupagelaw28_awake.f kj5).bind fun t172 => (some t172)) = some r := by rw [if_pos rfl] at H; exact H
        clear H
        have H := H1
        clear H1
        replace H := Option.bind_eq_some_iff.mp H
        obtain ⟨t172, A120, H⟩ := H
        replace H : (some t172) = some r := H
        have A12 := Aside0.mk A120
        clear A120
        obtain rfl := Option.some.inj H
        go_wp2_with (first | (go_at_call 26; (with_reducible refine (decoupagelaw28_awake.calls kj5  t172 _ A12.out).mono ?_); rintro e w13 ⟨rfl, hb⟩; have n0_ := Aside0.mk (below_step (by repeat (first | (with_reducible first | exact HB.out | apply below_alloc | apply pw_below_drewN | apply below_drew1) | exact HB.out)) hb); clear HB; have HB := n0_; clear n0_; (try clear hb); (try clear hb2); (try clear hk); (try clear hi)))
        repeat (go_quiet (first | (go_at_call 26; (with_reducible refine (decoupagelaw28_awake.calls kj5  t172 _ A12.out).mono ?_); rintro e w13 ⟨rfl, hb⟩; have n0_ := Aside0.mk (below_step (by repeat (first | (with_reducible first | exact HB.out | apply below_alloc | apply pw_below_drewN | apply below_drew1) | exact HB.out)) hb); clear HB; have HB := n0_; clear n0_; (try clear hb); (try clear hb2); (try clear hk); (try clear hi))); try go_wp2_with (first | (go_at_call 26; (with_reducible refine (decoupagelaw28_awake.calls kj5  t172 _ A12.out).mono ?_); rintro e w13 ⟨rfl, hb⟩; have n0_ := Aside0.mk (below_step (by repeat (first | (with_reducible first | exact HB.out | apply below_alloc | apply pw_below_drewN | apply below_drew1) | exact HB.out)) hb); clear HB; have HB := n0_; clear n0_; (try clear hb); (try clear hb2); (try clear hk); (try clear hi))))
        go_ret
        exact ⟨by first | rfl | (simp [errW_none, errW_some] <;> rfl) | (simp [*, errW_none, errW_some] <;> rfl), by repeat (first | (with_reducible first | exact HB.out | apply below_alloc | apply pw_below_drewN | apply below_drew1) | exact HB.out)⟩
      · replace c11 := Bool.eq_false_iff.mpr c11
        subst c11
        have H1 : ((raster_Runs.f kj5 l0 a1 a2 a3).bind fun t173 => (decoupagelaw28_RasterRuns.l0 kj5 l0 a1 a2 a3 a4 t173 (-1) (t173.length : Int) 0)) = some r := by rw [if_neg (show ¬ (false = true) by decide)] at H; exact H
        clear H
        have H := H1
        clear H1
        replace H := Option.bind_eq_some_iff.mp H
        obtain ⟨t173, A140, H⟩ := H
        replace H : (decoupagelaw28_RasterRuns.l0 kj5 l0 a1 a2 a3 a4 t173 (-1) (t173.length : Int) 0) = some r := H
        have A14 := Aside0.mk A140
        clear A140
        have H' := Aside0.mk H
        clear H
        go_wp2_with (first | (go_at_call 30; (with_reducible refine (raster_Runs.calls kj5 _ _ l0 a1 a2 a3 t173 _ ?side1 ?side2 A14.out).mono ?_); (case side1 => repeat (first | exact (Kd.C_below HR0.out HB.out) | (with_reducible refine Kd.C_alloc ?_ _) | (with_reducible refine Kd.C_drewN ?_ _) | (with_reducible refine Kd.C_drew ?_))); (case side2 => exact HC0.out); rintro e w15 ⟨v174, rfl, ho0, hb⟩; have n0_ := Aside0.mk (Kd.R_lower ho0 (below_size (by repeat (first | (with_reducible first | exact HB.out | apply below_alloc | apply pw_below_drewN | apply below_drew1) | exact HB.out)))); have n1_ := Aside0.mk (below_step (by repeat (first | (with_reducible first | exact HB.out | apply below_alloc | apply pw_below_drewN | apply below_drew1) | exact HB.out)) hb); clear HB; have HO175 := n0_; have HB := n1_; clear n0_ n1_; (try clear hb); (try clear hb2); (try clear hk); (try clear hi); (try clear ho0); obtain ⟨Ao16, co16, eo16⟩ := Kd.R_slice HO175.out; subst eo16))
        repeat (go_quiet (first | (go_at_call 30; (with_reducible refine (raster_Runs.calls kj5 _ _ l0 a1 a2 a3 t173 _ ?side1 ?side2 A14.out).mono ?_); (case side1 => repeat (first | exact (Kd.C_below HR0.out HB.out) | (with_reducible refine Kd.C_alloc ?_ _) | (with_reducible refine Kd.C_drewN ?_ _) | (with_reducible refine Kd.C_drew ?_))); (case side2 => exact HC0.out); rintro e w15 ⟨v174, rfl, ho0, hb⟩; have n0_ := Aside0.mk (Kd.R_lower ho0 (below_size (by repeat (first | (with_reducible first | exact HB.out | apply below_alloc | apply pw_below_drewN | apply below_drew1) | exact HB.out)))); have n1_ := Aside0.mk (below_step (by repeat (first | (with_reducible first | exact HB.out | apply below_alloc | apply pw_below_drewN | apply below_drew1) | exact HB.out)) hb); clear HB; have HO175 := n0_; have HB := n1_; clear n0_ n1_; (try clear hb); (try clear hb2); (try clear hk); (try clear hi); (try clear ho0); obtain ⟨Ao16, co16, eo16⟩ := Kd.R_slice HO175.out; subst eo16)); try go_wp2_with (first | (go_at_call 30; (with_reducible refine (raster_Runs.calls kj5 _ _ l0 a1 a2 a3 t173 _ ?side1 ?side2 A14.out).mono ?_); (case side1 => repeat (first | exact (Kd.C_below HR0.out HB.out) | (with_reducible refine Kd.C_alloc ?_ _) | (with_reducible refine Kd.C_drewN ?_ _) | (with_reducible refine Kd.C_drew ?_))); (case side2 => exact HC0.out); rintro e w15 ⟨v174, rfl, ho0, hb⟩; have n0_ := Aside0.mk (Kd.R_lower ho0 (below_size (by repeat (first | (with_reducible first | exact HB.out | apply below_alloc | apply pw_below_drewN | apply below_drew1) | exact HB.out)))); have n1_ := Aside0.mk (below_step (by repeat (first | (with_reducible first | exact HB.out | apply below_alloc | apply pw_below_drewN | apply below_drew1) | exact HB.out)) hb); clear HB; have HO175 := n0_; have HB := n1_; clear n0_ n1_; (try clear hb); (try clear hb2); (try clear hk); (try clear hi); (try clear ho0); obtain ⟨Ao16, co16, eo16⟩ := Kd.R_slice HO175.out; subst eo16)))
        go_loopg [12, 30] kj5 (fun kq v12 v30 w' => ∃ (x12_2 : Int) (x30_2 : Int), v12 = .int .i64 x12_2 ∧ v30 = .int .i64 x30_2 ∧ Aside0 (decoupagelaw28_RasterRuns.l0 kq l0 a1 a2 a3 a4 t173 x12_2 (t173.length : Int) x30_2 = some r) ∧ Aside0 (kq ≤ kj5) ∧ Aside0 (Kd.R k56 56 w' w.heap.size (fun _ => True) (.slice Ao16 t173.length co16) t173) ∧ Aside0 (Below w.heap.size w w'))
        case atStart => exact ⟨((-1)), (0), (by first | rfl | (simp; done) | (simp [*]; done)), (by first | rfl | (simp; done) | (simp [*]; done)), H', ⟨Nat.le_refl _⟩, ⟨by (with_reducible repeat (first | apply Kd.R_alloc | apply Kd.R_drewN | apply Kd.R_drew)); exact HO175.out⟩, ⟨by repeat (first | (with_reducible first | exact HB.out | apply below_alloc | apply pw_below_drewN | apply below_drew1) | exact HB.out)⟩⟩
        case round =>
          clear H'
          try clear c1
          try clear p2
          try clear c8
          try clear c11
          try clear p2
          obtain ⟨x12_2, x30_2, rfl, rfl, HA, HK2, HO_11, HB⟩ := hrel
          cases gk with
          | zero => exact absurd HA.out (by simp [decoupagelaw28_RasterRuns.l0])
          | succ k2 =>
            have H := HA.out
            clear HA
            simp only [decoupagelaw28_RasterRuns.l0] at H
            by_cases c17 : x30_2 < (t173.length : Int)
            · rw [if_pos c17] at H
              have c17b0 : decide (x30_2 < (t173.length : Int)) = true := decide_eq_true c17
              clear c17
              by_cases c18 : 0 ≤ x30_2
              · rw [if_pos c18] at H
                have c18b0 : decide (0 ≤ x30_2) = true := decide_eq_true c18
                clear c18
                by_cases c19 : x30_2 < (t173.length : Int)
                · rw [if_pos c19] at H
                  have c19b0 : decide (x30_2 < (t173.length : Int)) = true := decide_eq_true c19
                  clear c19
                  have HC20 := Aside0.mk H
                  clear H
                  have p177 : 0 ≤ (x30_2 : Int) := of_decide_eq_true (by first | (with_reducible assumption) | assumption)
                  have q177 : x30_2 < (t173.length : Int) := of_decide_eq_true (by first | (with_reducible assumption) | assumption)
                  obtain ⟨ad177, e177, hx177_0, hx177_1, hx177_2⟩ := at_T56 (Kd.R_reads' HO_11.out).2.2 x30_2 p177 q177
                  cases e177
                  replace p177 := eq_true p177
                  replace q177 := eq_true q177
                  go_upto_region 9 with (first | ((with_reducible refine gate_dst (N := 14) rfl ?_); (try (refine gate_guard (by rfl) ?_; dsimp only)); refine box_event ?hg (N := 14) ?hd (cs := #[.int .i64 0, .int .i64 0, .int .i64 0]) (t := 56) ?hr ?_; (case hd => rfl); (case hg => rfl); (case hr => first | (go_simp; done) | (go_simp; rfl)); intro gb178 hg w21 hbox hb; have n0_ := Aside0.mk (Kd.R_below (Kd.R_elderB (by (with_reducible repeat (first | apply Kd.R_alloc | apply Kd.R_drewN | apply Kd.R_drew)); exact HO_11.out) gb178 (Nat.le_of_eq hg.symm)) hb); have n1_ := Aside0.mk (below_step (by repeat (first | (with_reducible first | exact HB.out | apply below_alloc | apply pw_below_drewN | apply below_drew1) | exact HB.out)) hb); have n2_ := Aside0.mk (hbox); have n3_ := Aside0.mk ((by rw [hg]; exact (below_size (by repeat (first | (with_reducible first | exact HB.out | apply below_alloc | apply pw_below_drewN | apply below_drew1) | exact HB.out))) : w.heap.size ≤ gb178)); have n4_ := Aside0.mk ((by rw [hg]; exact (below_size (by repeat (first | (with_reducible first | exact HB.out | apply below_alloc | apply pw_below_drewN | apply below_drew1) | exact HB.out))) : w.heap.size ≤ gb178)); clear HO_11; clear HB; have HO_11 := n0_; have HB := n1_; have BK178 := n2_; have GW178 := n3_; have GE178 := n4_; clear n0_ n1_ n2_ n3_ n4_; clear hb hbox hg; have hcz22_0 : w21.cell? ⟨gb178, 0, none⟩ = some (.int .i64 0) := (blk_cell BK178.out 0).trans rfl; have hcz22_1 : w21.cell? ⟨gb178, 1, none⟩ = some (.int .i64 0) := (blk_cell BK178.out 1).trans rfl; have hcz22_2 : w21.cell? ⟨gb178, 2, none⟩ = some (.int .i64 0) := (blk_cell BK178.out 2).trans rfl; have hfz22_0 := blk_frozen BK178.out 0; have hfz22_1 := blk_frozen BK178.out 1; have hfz22_2 := blk_frozen BK178.out 2))
                  repeat (go_quiet (first | ((with_reducible refine gate_dst (N := 14) rfl ?_); (try (refine gate_guard (by rfl) ?_; dsimp only)); refine box_event ?hg (N := 14) ?hd (cs := #[.int .i64 0, .int .i64 0, .int .i64 0]) (t := 56) ?hr ?_; (case hd => rfl); (case hg => rfl); (case hr => first | (go_simp; done) | (go_simp; rfl)); intro gb178 hg w21 hbox hb; have n0_ := Aside0.mk (Kd.R_below (Kd.R_elderB (by (with_reducible repeat (first | apply Kd.R_alloc | apply Kd.R_drewN | apply Kd.R_drew)); exact HO_11.out) gb178 (Nat.le_of_eq hg.symm)) hb); have n1_ := Aside0.mk (below_step (by repeat (first | (with_reducible first | exact HB.out | apply below_alloc | apply pw_below_drewN | apply below_drew1) | exact HB.out)) hb); have n2_ := Aside0.mk (hbox); have n3_ := Aside0.mk ((by rw [hg]; exact (below_size (by repeat (first | (with_reducible first | exact HB.out | apply below_alloc | apply pw_below_drewN | apply below_drew1) | exact HB.out))) : w.heap.size ≤ gb178)); have n4_ := Aside0.mk ((by rw [hg]; exact (below_size (by repeat (first | (with_reducible first | exact HB.out | apply below_alloc | apply pw_below_drewN | apply below_drew1) | exact HB.out))) : w.heap.size ≤ gb178)); clear HO_11; clear HB; have HO_11 := n0_; have HB := n1_; have BK178 := n2_; have GW178 := n3_; have GE178 := n4_; clear n0_ n1_ n2_ n3_ n4_; clear hb hbox hg; have hcz22_0 : w21.cell? ⟨gb178, 0, none⟩ = some (.int .i64 0) := (blk_cell BK178.out 0).trans rfl; have hcz22_1 : w21.cell? ⟨gb178, 1, none⟩ = some (.int .i64 0) := (blk_cell BK178.out 1).trans rfl; have hcz22_2 : w21.cell? ⟨gb178, 2, none⟩ = some (.int .i64 0) := (blk_cell BK178.out 2).trans rfl; have hfz22_0 := blk_frozen BK178.out 0; have hfz22_1 := blk_frozen BK178.out 1; have hfz22_2 := blk_frozen BK178.out 2)); go_upto_region 9 with (first | ((with_reducible refine gate_dst (N := 14) rfl ?_); (try (refine gate_guard (by rfl) ?_; dsimp only)); refine box_event ?hg (N := 14) ?hd (cs := #[.int .i64 0, .int .i64 0, .int .i64 0]) (t := 56) ?hr ?_; (case hd => rfl); (case hg => rfl); (case hr => first | (go_simp; done) | (go_simp; rfl)); intro gb178 hg w21 hbox hb; have n0_ := Aside0.mk (Kd.R_below (Kd.R_elderB (by (with_reducible repeat (first | apply Kd.R_alloc | apply Kd.R_drewN | apply Kd.R_drew)); exact HO_11.out) gb178 (Nat.le_of_eq hg.symm)) hb); have n1_ := Aside0.mk (below_step (by repeat (first | (with_reducible first | exact HB.out | apply below_alloc | apply pw_below_drewN | apply below_drew1) | exact HB.out)) hb); have n2_ := Aside0.mk (hbox); have n3_ := Aside0.mk ((by rw [hg]; exact (below_size (by repeat (first | (with_reducible first | exact HB.out | apply below_alloc | apply pw_below_drewN | apply below_drew1) | exact HB.out))) : w.heap.size ≤ gb178)); have n4_ := Aside0.mk ((by rw [hg]; exact (below_size (by repeat (first | (with_reducible first | exact HB.out | apply below_alloc | apply pw_below_drewN | apply below_drew1) | exact HB.out))) : w.heap.size ≤ gb178)); clear HO_11; clear HB; have HO_11 := n0_; have HB := n1_; have BK178 := n2_; have GW178 := n3_; have GE178 := n4_; clear n0_ n1_ n2_ n3_ n4_; clear hb hbox hg; have hcz22_0 : w21.cell? ⟨gb178, 0, none⟩ = some (.int .i64 0) := (blk_cell BK178.out 0).trans rfl; have hcz22_1 : w21.cell? ⟨gb178, 1, none⟩ = some (.int .i64 0) := (blk_cell BK178.out 1).trans rfl; have hcz22_2 : w21.cell? ⟨gb178, 2, none⟩ = some (.int .i64 0) := (blk_cell BK178.out 2).trans rfl; have hfz22_0 := blk_frozen BK178.out 0; have hfz22_1 := blk_frozen BK178.out 1; have hfz22_2 := blk_frozen BK178.out 2)))
                  (try simp only [Act.put, List.setIfInBounds_toArray, List.set_cons_zero, List.set_cons_succ])
                  obtain ⟨wq, hwq⟩ : ∃ wq_ : World, wq_ = (((w21).setCell ⟨gb178, 0, none⟩ (.int .i64 ((rd_T56 t173 x30_2).f0))).setCell ⟨gb178, 1, none⟩ (.int .i64 ((rd_T56 t173 x30_2).f1))).setCell ⟨gb178, 2, none⟩ (.int .i64 ((rd_T56 t173 x30_2).f2)) := ⟨_, rfl⟩
                  rw [← hwq]
                  try simp only [List.append]
                  have nqA := Aside0.mk (show Kd.R k56 56 wq w.heap.size (fun k_ => k_ ≠ gb178) (.slice (some ad177) t173.length co16) t173 from by rw [hwq]; (with_reducible repeat (first | apply Kd.R_alloc | apply Kd.R_drewN | apply Kd.R_drew)); exact Kd.R_mono (Kd.R_far (p := ⟨gb178, 2, none⟩) (Kd.R_far (p := ⟨gb178, 1, none⟩) (Kd.R_far (p := ⟨gb178, 0, none⟩) (Kd.R_mono HO_11.out (fun k_ hk => (⟨hk, hk.2⟩ : _ ∧ k_ ≠ gb178))) (fun _ hk => hk.2) (.int .i64 ((rd_T56 t173 x30_2).f0))) (fun _ hk => hk.2) (.int .i64 ((rd_T56 t173 x30_2).f1))) (fun _ hk => hk.2) (.int .i64 ((rd_T56 t173 x30_2).f2))) (fun _ hk => hk.1.2))
                  have nqB := Aside0.mk (show wq.heap[gb178]? = some (.cells #[.int .i64 ((rd_T56 t173 x30_2).f0), .int .i64 ((rd_T56 t173 x30_2).f1), .int .i64 ((rd_T56 t173 x30_2).f2)] 56 (0, 0)) from by rw [hwq]; (with_reducible repeat (first | refine blk_drewN ?_ _ | refine blk_drew ?_ | refine blk_alloc ?_ _)); refine blk_put (cs := #[.int .i64 ((rd_T56 t173 x30_2).f0), .int .i64 ((rd_T56 t173 x30_2).f1), .int .i64 0]) ?_ 2 _ rfl; (with_reducible repeat (first | refine blk_drewN ?_ _ | refine blk_drew ?_ | refine blk_alloc ?_ _)); refine blk_put (cs := #[.int .i64 ((rd_T56 t173 x30_2).f0), .int .i64 0, .int .i64 0]) ?_ 1 _ rfl; (with_reducible repeat (first | refine blk_drewN ?_ _ | refine blk_drew ?_ | refine blk_alloc ?_ _)); refine blk_put (cs := #[.int .i64 0, .int .i64 0, .int .i64 0]) ?_ 0 _ rfl; (with_reducible repeat (first | refine blk_drewN ?_ _ | refine blk_drew ?_ | refine blk_alloc ?_ _)); exact BK178.out)
                  have nqC := Aside0.mk (show Below w.heap.size w wq from by rw [hwq]; repeat (first | (with_reducible first | exact HB.out | apply below_alloc | apply pw_below_drewN | apply below_drew1 | refine below_set ?_ GE178.out) | exact HB.out))
                  clear hwq HO_11 BK178 HB
                  have HO_11 := nqA
                  have BK178 := nqB
                  have HB := nqC
                  clear nqA nqB nqC
                  go_cut [102] (fun v102 wc => ∃ (kq : Nat) (x102_19 : Bool), v102 = .bool x102_19 ∧ Aside0 (decoupagelaw28_RasterRuns.j2 kq l0 a1 a2 a3 a4 t173 x12_2 (t173.length : Int) x30_2 x102_19 ((rd_T56 t173 x30_2).f0) ((rd_T56 t173 x30_2).f1) ((rd_T56 t173 x30_2).f2) = some r) ∧ Aside0 (kq ≤ k2) ∧ Aside0 (Kd.R k56 56 wc w.heap.size (fun k_ => k_ ≠ gb178) (.slice (some ad177) t173.length co16) t173) ∧ Aside0 (wc.heap[gb178]? = some (.cells #[.int .i64 ((rd_T56 t173 x30_2).f0), .int .i64 ((rd_T56 t173 x30_2).f1), .int .i64 ((rd_T56 t173 x30_2).f2)] 56 (0, 0))) ∧ Aside0 (Below w.heap.size w wc))
                  case first =>
                    have H := HC20.out
                    clear HC20
                    by_cases c23 : ((rd_T56 t173 x30_2).f0) < a2
                    · rw [if_pos c23] at H
                      have c23b0 : decide (((rd_T56 t173 x30_2).f0) < a2) = true := decide_eq_true c23
                      clear c23
                      (first | rw [c23b0] | (simp only [i64_w, i32_w]; rw [c23b0]) | skip)
                      have H' := Aside0.mk H
                      clear H
                      have hcz24_0 : wq.cell? ⟨gb178, 0, none⟩ = some (.int .i64 ((rd_T56 t173 x30_2).f0)) := (blk_cell BK178.out 0).trans rfl
                      have hcz24_1 : wq.cell? ⟨gb178, 1, none⟩ = some (.int .i64 ((rd_T56 t173 x30_2).f1)) := (blk_cell BK178.out 1).trans rfl
                      have hcz24_2 : wq.cell? ⟨gb178, 2, none⟩ = some (.int .i64 ((rd_T56 t173 x30_2).f2)) := (blk_cell BK178.out 2).trans rfl
                      have hfz24_0 := blk_frozen BK178.out 0
                      have hfz24_1 := blk_frozen BK178.out 1
                      have hfz24_2 := blk_frozen BK178.out 2
                      go_wp2
                      repeat (go_quiet (fail); try go_wp2)
                      go_meet
                      case rel => exact ⟨_, (true), (by first | rfl | (simp; done) | (simp [*]; done)), H', ⟨by have := HJ5.out; have := HK2.out; first | omega | exact Nat.le_refl _⟩, ⟨by (with_reducible repeat (first | apply Kd.R_alloc | apply Kd.R_drewN | apply Kd.R_drew)); exact HO_11.out⟩, ⟨by (with_reducible repeat (first | refine blk_drewN ?_ _ | refine blk_drew ?_ | refine blk_alloc ?_ _)); exact BK178.out⟩, ⟨by repeat (first | (with_reducible first | exact HB.out | apply below_alloc | apply pw_below_drewN | apply below_drew1 | refine below_set ?_ GE178.out) | exact HB.out)⟩⟩
                    · rw [if_neg c23] at H
                      have c23b0 : decide (((rd_T56 t173 x30_2).f0) < a2) = false := decide_eq_false c23
                      clear c23
                      (first | rw [c23b0] | (simp only [i64_w, i32_w]; rw [c23b0]) | skip)
                      by_cases c25 : ((rd_T56 t173 x30_2).f1) > a3
                      · rw [if_pos c25] at H
                        have c25b0 : decide (a3 < ((rd_T56 t173 x30_2).f1)) = true := decide_eq_true c25
                        clear c25
                        have H' := Aside0.mk H
                        clear H
                        have hcz26_0 : wq.cell? ⟨gb178, 0, none⟩ = some (.int .i64 ((rd_T56 t173 x30_2).f0)) := (blk_cell BK178.out 0).trans rfl
                        have hcz26_1 : wq.cell? ⟨gb178, 1, none⟩ = some (.int .i64 ((rd_T56 t173 x30_2).f1)) := (blk_cell BK178.out 1).trans rfl
                        have hcz26_2 : wq.cell? ⟨gb178, 2, none⟩ = some (.int .i64 ((rd_T56 t173 x30_2).f2)) := (blk_cell BK178.out 2).trans rfl
                        have hfz26_0 := blk_frozen BK178.out 0
                        have hfz26_1 := blk_frozen BK178.out 1
                        have hfz26_2 := blk_frozen BK178.out 2
                        go_wp2
                        repeat (go_quiet (fail); try go_wp2)
                        go_meet
                        case rel => exact ⟨_, (true), (by first | rfl | (simp; done) | (simp [*]; done)), H', ⟨by have := HJ5.out; have := HK2.out; first | omega | exact Nat.le_refl _⟩, ⟨by (with_reducible repeat (first | apply Kd.R_alloc | apply Kd.R_drewN | apply Kd.R_drew)); exact HO_11.out⟩, ⟨by (with_reducible repeat (first | refine blk_drewN ?_ _ | refine blk_drew ?_ | refine blk_alloc ?_ _)); exact BK178.out⟩, ⟨by repeat (first | (with_reducible first | exact HB.out | apply below_alloc | apply pw_below_drewN | apply below_drew1 | refine below_set ?_ GE178.out) | exact HB.out)⟩⟩
                      · rw [if_neg c25] at H
                        have c25b0 : decide (a3 < ((rd_T56 t173 x30_2).f1)) = false := decide_eq_false c25
                        clear c25
                        by_cases c27 : ((rd_T56 t173 x30_2).f0) ≥ ((rd_T56 t173 x30_2).f1)
                        · rw [if_pos c27] at H
                          have c27b0 : decide (((rd_T56 t173 x30_2).f1) ≤ ((rd_T56 t173 x30_2).f0)) = true := decide_eq_true c27
                          clear c27
                          have H' := Aside0.mk H
                          clear H
                          have hcz28_0 : wq.cell? ⟨gb178, 0, none⟩ = some (.int .i64 ((rd_T56 t173 x30_2).f0)) := (blk_cell BK178.out 0).trans rfl
                          have hcz28_1 : wq.cell? ⟨gb178, 1, none⟩ = some (.int .i64 ((rd_T56 t173 x30_2).f1)) := (blk_cell BK178.out 1).trans rfl
                          have hcz28_2 : wq.cell? ⟨gb178, 2, none⟩ = some (.int .i64 ((rd_T56 t173 x30_2).f2)) := (blk_cell BK178.out 2).trans rfl
                          have hfz28_0 := blk_frozen BK178.out 0
                          have hfz28_1 := blk_frozen BK178.out 1
                          have hfz28_2 := blk_frozen BK178.out 2
                          go_wp2
                          repeat (go_quiet (fail); try go_wp2)
                          go_meet
                          case rel => exact ⟨_, (true), (by first | rfl | (simp; done) | (simp [*]; done)), H', ⟨by have := HJ5.out; have := HK2.out; first | omega | exact Nat.le_refl _⟩, ⟨by (with_reducible repeat (first | apply Kd.R_alloc | apply Kd.R_drewN | apply Kd.R_drew)); exact HO_11.out⟩, ⟨by (with_reducible repeat (first | refine blk_drewN ?_ _ | refine blk_drew ?_ | refine blk_alloc ?_ _)); exact BK178.out⟩, ⟨by repeat (first | (with_reducible first | exact HB.out | apply below_alloc | apply pw_below_drewN | apply below_drew1 | refine below_set ?_ GE178.out) | exact HB.out)⟩⟩
                        · rw [if_neg c27] at H
                          have c27b0 : decide (((rd_T56 t173 x30_2).f1) ≤ ((rd_T56 t173 x30_2).f0)) = false := decide_eq_false c27
                          clear c27
                          by_cases c29 : ((rd_T56 t173 x30_2).f2) < 0
                          · rw [if_pos c29] at H
                            have c29b0 : decide (((rd_T56 t173 x30_2).f2) < 0) = true := decide_eq_true c29
                            clear c29
                            have H' := Aside0.mk H
                            clear H
                            have hcz30_0 : wq.cell? ⟨gb178, 0, none⟩ = some (.int .i64 ((rd_T56 t173 x30_2).f0)) := (blk_cell BK178.out 0).trans rfl
                            have hcz30_1 : wq.cell? ⟨gb178, 1, none⟩ = some (.int .i64 ((rd_T56 t173 x30_2).f1)) := (blk_cell BK178.out 1).trans rfl
                            have hcz30_2 : wq.cell? ⟨gb178, 2, none⟩ = some (.int .i64 ((rd_T56 t173 x30_2).f2)) := (blk_cell BK178.out 2).trans rfl
                            have hfz30_0 := blk_frozen BK178.out 0
                            have hfz30_1 := blk_frozen BK178.out 1
                            have hfz30_2 := blk_frozen BK178.out 2
                            go_wp2
                            repeat (go_quiet (fail); try go_wp2)
                            go_meet
                            case rel => exact ⟨_, (true), (by first | rfl | (simp; done) | (simp [*]; done)), H', ⟨by have := HJ5.out; have := HK2.out; first | omega | exact Nat.le_refl _⟩, ⟨by (with_reducible repeat (first | apply Kd.R_alloc | apply Kd.R_drewN | apply Kd.R_drew)); exact HO_11.out⟩, ⟨by (with_reducible repeat (first | refine blk_drewN ?_ _ | refine blk_drew ?_ | refine blk_alloc ?_ _)); exact BK178.out⟩, ⟨by repeat (first | (with_reducible first | exact HB.out | apply below_alloc | apply pw_below_drewN | apply below_drew1 | refine below_set ?_ GE178.out) | exact HB.out)⟩⟩
                          · rw [if_neg c29] at H
                            have c29b0 : decide (((rd_T56 t173 x30_2).f2) < 0) = false := decide_eq_false c29
                            clear c29
                            by_cases c31 : ((rd_T56 t173 x30_2).f2) ≥ (l0.length : Int)
                            · rw [if_pos c31] at H
                              have c31b0 : decide ((l0.length : Int) ≤ ((rd_T56 t173 x30_2).f2)) = true := decide_eq_true c31
                              clear c31
                              have H' := Aside0.mk H
                              clear H
                              have hcz32_0 : wq.cell? ⟨gb178, 0, none⟩ = some (.int .i64 ((rd_T56 t173 x30_2).f0)) := (blk_cell BK178.out 0).trans rfl
                              have hcz32_1 : wq.cell? ⟨gb178, 1, none⟩ = some (.int .i64 ((rd_T56 t173 x30_2).f1)) := (blk_cell BK178.out 1).trans rfl
                              have hcz32_2 : wq.cell? ⟨gb178, 2, none⟩ = some (.int .i64 ((rd_T56 t173 x30_2).f2)) := (blk_cell BK178.out 2).trans rfl
                              have hfz32_0 := blk_frozen BK178.out 0
                              have hfz32_1 := blk_frozen BK178.out 1
                              have hfz32_2 := blk_frozen BK178.out 2
                              go_wp2
                              repeat (go_quiet (fail); try go_wp2)
                              go_meet
                              case rel => exact ⟨_, (true), (by first | rfl | (simp; done) | (simp [*]; done)), H', ⟨by have := HJ5.out; have := HK2.out; first | omega | exact Nat.le_refl _⟩, ⟨by (with_reducible repeat (first | apply Kd.R_alloc | apply Kd.R_drewN | apply Kd.R_drew)); exact HO_11.out⟩, ⟨by (with_reducible repeat (first | refine blk_drewN ?_ _ | refine blk_drew ?_ | refine blk_alloc ?_ _)); exact BK178.out⟩, ⟨by repeat (first | (with_reducible first | exact HB.out | apply below_alloc | apply pw_below_drewN | apply below_drew1 | refine below_set ?_ GE178.out) | exact HB.out)⟩⟩
                            · rw [if_neg c31] at H
                              have c31b0 : decide ((l0.length : Int) ≤ ((rd_T56 t173 x30_2).f2)) = false := decide_eq_false c31
                              clear c31
                              by_cases c33 : x30_2 > 0
                              · rw [if_pos c33] at H
                                have c33b0 : decide (0 < x30_2) = true := decide_eq_true c33
                                clear c33
                                obtain ⟨ji34, hji34⟩ : ∃ j_ : Int, (wrap64 (x30_2 - 1)) = j_ := ⟨_, rfl⟩
                                replace H : (if 0 ≤ (ji34) then (if (ji34) < (t173.length : Int) then (if ((rd_T56 t173 (ji34)).f1) > ((rd_T56 t173 x30_2).f0) then (decoupagelaw28_RasterRuns.j2 k2 l0 a1 a2 a3 a4 t173 x12_2 (t173.length : Int) x30_2 true ((rd_T56 t173 x30_2).f0) ((rd_T56 t173 x30_2).f1) ((rd_T56 t173 x30_2).f2)) else (if ((rd_T56 t173 (ji34)).f1) = ((rd_T56 t173 x30_2).f0) then (decoupagelaw28_RasterRuns.j2 k2 l0 a1 a2 a3 a4 t173 x12_2 (t173.length : Int) x30_2 (((rd_T56 t173 (ji34)).f2) == ((rd_T56 t173 x30_2).f2)) ((rd_T56 t173 x30_2).f0) ((rd_T56 t173 x30_2).f1) ((rd_T56 t173 x30_2).f2)) else (decoupagelaw28_RasterRuns.j2 k2 l0 a1 a2 a3 a4 t173 x12_2 (t173.length : Int) x30_2 false ((rd_T56 t173 x30_2).f0) ((rd_T56 t173 x30_2).f1) ((rd_T56 t173 x30_2).f2)))) else (none)) else (none)) = some r := by first | (rw [hji34] at H; exact H) | (simp only [hji34] at H ⊢; exact H)
                                have hji34w : (IntKind.i64.wrap (x30_2 - 1)) = ji34 := (i64_w _).trans hji34
                                by_cases c35 : 0 ≤ (ji34)
                                · rw [if_pos c35] at H
                                  have c35b0 : decide (0 ≤ (ji34)) = true := decide_eq_true c35
                                  clear c35
                                  by_cases c36 : (ji34) < (t173.length : Int)
                                  · rw [if_pos c36] at H
                                    have c36b0 : decide ((ji34) < (t173.length : Int)) = true := decide_eq_true c36
                                    clear c36
                                    by_cases c37 : ((rd_T56 t173 (ji34)).f1) > ((rd_T56 t173 x30_2).f0)
                                    · rw [if_pos c37] at H
                                      have c37b0 : decide (((rd_T56 t173 x30_2).f0) < ((rd_T56 t173 (ji34)).f1)) = true := decide_eq_true c37
                                      clear c37
                                      have H' := Aside0.mk H
                                      clear H
                                      have hcz38_0 : wq.cell? ⟨gb178, 0, none⟩ = some (.int .i64 ((rd_T56 t173 x30_2).f0)) := (blk_cell BK178.out 0).trans rfl
                                      have hcz38_1 : wq.cell? ⟨gb178, 1, none⟩ = some (.int .i64 ((rd_T56 t173 x30_2).f1)) := (blk_cell BK178.out 1).trans rfl
                                      have hcz38_2 : wq.cell? ⟨gb178, 2, none⟩ = some (.int .i64 ((rd_T56 t173 x30_2).f2)) := (blk_cell BK178.out 2).trans rfl
                                      have hfz38_0 := blk_frozen BK178.out 0
                                      have hfz38_1 := blk_frozen BK178.out 1
                                      have hfz38_2 := blk_frozen BK178.out 2
                                      have p179 : 0 ≤ ((ji34) : Int) := of_decide_eq_true (by first | (with_reducible assumption) | assumption)
                                      have q179 : (ji34) < (t173.length : Int) := of_decide_eq_true (by first | (with_reducible assumption) | assumption)
                                      obtain ⟨ad179, e179, hx179_0, hx179_1, hx179_2⟩ := at_T56 (Kd.R_reads' HO_11.out).2.2 (ji34) p179 q179
                                      obtain rfl : ad177 = ad179 := (by injection e179)
                                      (try have hy179_0 := fun (n_ : Nat) => (show (((((w21.drewN n_).setCell ⟨gb178, 0, none⟩ (.int .i64 ((rd_T56 t173 x30_2).f0))).setCell ⟨gb178, 1, none⟩ (.int .i64 ((rd_T56 t173 x30_2).f1))).setCell ⟨gb178, 2, none⟩ (.int .i64 ((rd_T56 t173 x30_2).f2)))).cell? _ = some _ from hx179_0))
                                      (try have hy179_1 := fun (n_ : Nat) => (show (((((w21.drewN n_).setCell ⟨gb178, 0, none⟩ (.int .i64 ((rd_T56 t173 x30_2).f0))).setCell ⟨gb178, 1, none⟩ (.int .i64 ((rd_T56 t173 x30_2).f1))).setCell ⟨gb178, 2, none⟩ (.int .i64 ((rd_T56 t173 x30_2).f2)))).cell? _ = some _ from hx179_1))
                                      (try have hy179_2 := fun (n_ : Nat) => (show (((((w21.drewN n_).setCell ⟨gb178, 0, none⟩ (.int .i64 ((rd_T56 t173 x30_2).f0))).setCell ⟨gb178, 1, none⟩ (.int .i64 ((rd_T56 t173 x30_2).f1))).setCell ⟨gb178, 2, none⟩ (.int .i64 ((rd_T56 t173 x30_2).f2)))).cell? _ = some _ from hx179_2))
                                      replace p179 := eq_true p179
                                      replace q179 := eq_true q179
                                      go_wp2
                                      repeat (go_quiet (fail); try go_wp2)
                                      go_meet
                                      case rel => exact ⟨_, (true), (by first | rfl | (simp; done) | (simp [*]; done)), H', ⟨by have := HJ5.out; have := HK2.out; first | omega | exact Nat.le_refl _⟩, ⟨by (with_reducible repeat (first | apply Kd.R_alloc | apply Kd.R_drewN | apply Kd.R_drew)); exact HO_11.out⟩, ⟨by (with_reducible repeat (first | refine blk_drewN ?_ _ | refine blk_drew ?_ | refine blk_alloc ?_ _)); exact BK178.out⟩, ⟨by repeat (first | (with_reducible first | exact HB.out | apply below_alloc | apply pw_below_drewN | apply below_drew1 | refine below_set ?_ GE178.out) | exact HB.out)⟩⟩
                                    · rw [if_neg c37] at H
                                      have c37b0 : decide (((rd_T56 t173 x30_2).f0) < ((rd_T56 t173 (ji34)).f1)) = false := decide_eq_false c37
                                      clear c37
                                      by_cases c39 : ((rd_T56 t173 (ji34)).f1) = ((rd_T56 t173 x30_2).f0)
                                      · rw [if_pos c39] at H
                                        have c39b0 : (((rd_T56 t173 (ji34)).f1) == ((rd_T56 t173 x30_2).f0)) = true := beq_iff_eq.mpr c39
                                        have c39b1 : (((rd_T56 t173 (ji34)).f1) != ((rd_T56 t173 x30_2).f0)) = false := bne_eq_false_iff_eq.mpr c39
                                        clear c39
                                        have H' := Aside0.mk H
                                        clear H
                                        have hcz40_0 : wq.cell? ⟨gb178, 0, none⟩ = some (.int .i64 ((rd_T56 t173 x30_2).f0)) := (blk_cell BK178.out 0).trans rfl
                                        have hcz40_1 : wq.cell? ⟨gb178, 1, none⟩ = some (.int .i64 ((rd_T56 t173 x30_2).f1)) := (blk_cell BK178.out 1).trans rfl
                                        have hcz40_2 : wq.cell? ⟨gb178, 2, none⟩ = some (.int .i64 ((rd_T56 t173 x30_2).f2)) := (blk_cell BK178.out 2).trans rfl
                                        have hfz40_0 := blk_frozen BK178.out 0
                                        have hfz40_1 := blk_frozen BK178.out 1
                                        have hfz40_2 := blk_frozen BK178.out 2
                                        have p179 : 0 ≤ ((ji34) : Int) := of_decide_eq_true (by first | (with_reducible assumption) | assumption)
                                        have q179 : (ji34) < (t173.length : Int) := of_decide_eq_true (by first | (with_reducible assumption) | assumption)
                                        obtain ⟨ad179, e179, hx179_0, hx179_1, hx179_2⟩ := at_T56 (Kd.R_reads' HO_11.out).2.2 (ji34) p179 q179
                                        obtain rfl : ad177 = ad179 := (by injection e179)
                                        (try have hy179_0 := fun (n_ : Nat) => (show (((((w21.drewN n_).setCell ⟨gb178, 0, none⟩ (.int .i64 ((rd_T56 t173 x30_2).f0))).setCell ⟨gb178, 1, none⟩ (.int .i64 ((rd_T56 t173 x30_2).f1))).setCell ⟨gb178, 2, none⟩ (.int .i64 ((rd_T56 t173 x30_2).f2)))).cell? _ = some _ from hx179_0))
                                        (try have hy179_1 := fun (n_ : Nat) => (show (((((w21.drewN n_).setCell ⟨gb178, 0, none⟩ (.int .i64 ((rd_T56 t173 x30_2).f0))).setCell ⟨gb178, 1, none⟩ (.int .i64 ((rd_T56 t173 x30_2).f1))).setCell ⟨gb178, 2, none⟩ (.int .i64 ((rd_T56 t173 x30_2).f2)))).cell? _ = some _ from hx179_1))
                                        (try have hy179_2 := fun (n_ : Nat) => (show (((((w21.drewN n_).setCell ⟨gb178, 0, none⟩ (.int .i64 ((rd_T56 t173 x30_2).f0))).setCell ⟨gb178, 1, none⟩ (.int .i64 ((rd_T56 t173 x30_2).f1))).setCell ⟨gb178, 2, none⟩ (.int .i64 ((rd_T56 t173 x30_2).f2)))).cell? _ = some _ from hx179_2))
                                        replace p179 := eq_true p179
                                        replace q179 := eq_true q179
                                        have p180 : 0 ≤ ((ji34) : Int) := of_decide_eq_true (by first | (with_reducible assumption) | assumption)
                                        have q180 : (ji34) < (t173.length : Int) := of_decide_eq_true (by first | (with_reducible assumption) | assumption)
                                        obtain ⟨ad180, e180, hx180_0, hx180_1, hx180_2⟩ := at_T56 (Kd.R_reads' HO_11.out).2.2 (ji34) p180 q180
                                        obtain rfl : ad177 = ad180 := (by injection e180)
                                        (try have hy180_0 := fun (n_ : Nat) => (show (((((w21.drewN n_).setCell ⟨gb178, 0, none⟩ (.int .i64 ((rd_T56 t173 x30_2).f0))).setCell ⟨gb178, 1, none⟩ (.int .i64 ((rd_T56 t173 x30_2).f1))).setCell ⟨gb178, 2, none⟩ (.int .i64 ((rd_T56 t173 x30_2).f2)))).cell? _ = some _ from hx180_0))
                                        (try have hy180_1 := fun (n_ : Nat) => (show (((((w21.drewN n_).setCell ⟨gb178, 0, none⟩ (.int .i64 ((rd_T56 t173 x30_2).f0))).setCell ⟨gb178, 1, none⟩ (.int .i64 ((rd_T56 t173 x30_2).f1))).setCell ⟨gb178, 2, none⟩ (.int .i64 ((rd_T56 t173 x30_2).f2)))).cell? _ = some _ from hx180_1))
                                        (try have hy180_2 := fun (n_ : Nat) => (show (((((w21.drewN n_).setCell ⟨gb178, 0, none⟩ (.int .i64 ((rd_T56 t173 x30_2).f0))).setCell ⟨gb178, 1, none⟩ (.int .i64 ((rd_T56 t173 x30_2).f1))).setCell ⟨gb178, 2, none⟩ (.int .i64 ((rd_T56 t173 x30_2).f2)))).cell? _ = some _ from hx180_2))
                                        replace p180 := eq_true p180
                                        replace q180 := eq_true q180
                                        have p181 : 0 ≤ ((ji34) : Int) := of_decide_eq_true (by first | (with_reducible assumption) | assumption)
                                        have q181 : (ji34) < (t173.length : Int) := of_decide_eq_true (by first | (with_reducible assumption) | assumption)
                                        obtain ⟨ad181, e181, hx181_0, hx181_1, hx181_2⟩ := at_T56 (Kd.R_reads' HO_11.out).2.2 (ji34) p181 q181
                                        obtain rfl : ad177 = ad181 := (by injection e181)
                                        (try have hy181_0 := fun (n_ : Nat) => (show (((((w21.drewN n_).setCell ⟨gb178, 0, none⟩ (.int .i64 ((rd_T56 t173 x30_2).f0))).setCell ⟨gb178, 1, none⟩ (.int .i64 ((rd_T56 t173 x30_2).f1))).setCell ⟨gb178, 2, none⟩ (.int .i64 ((rd_T56 t173 x30_2).f2)))).cell? _ = some _ from hx181_0))
                                        (try have hy181_1 := fun (n_ : Nat) => (show (((((w21.drewN n_).setCell ⟨gb178, 0, none⟩ (.int .i64 ((rd_T56 t173 x30_2).f0))).setCell ⟨gb178, 1, none⟩ (.int .i64 ((rd_T56 t173 x30_2).f1))).setCell ⟨gb178, 2, none⟩ (.int .i64 ((rd_T56 t173 x30_2).f2)))).cell? _ = some _ from hx181_1))
                                        (try have hy181_2 := fun (n_ : Nat) => (show (((((w21.drewN n_).setCell ⟨gb178, 0, none⟩ (.int .i64 ((rd_T56 t173 x30_2).f0))).setCell ⟨gb178, 1, none⟩ (.int .i64 ((rd_T56 t173 x30_2).f1))).setCell ⟨gb178, 2, none⟩ (.int .i64 ((rd_T56 t173 x30_2).f2)))).cell? _ = some _ from hx181_2))
                                        replace p181 := eq_true p181
                                        replace q181 := eq_true q181
                                        go_wp2
                                        repeat (go_quiet (fail); try go_wp2)
                                        go_meet
                                        case rel => exact ⟨_, ((((rd_T56 t173 (ji34)).f2) == ((rd_T56 t173 x30_2).f2))), (by first | rfl | (simp; done) | (simp only [← hji34] <;> (first | rfl | simp)) | (simp [*]; done)), H', ⟨by have := HJ5.out; have := HK2.out; first | omega | exact Nat.le_refl _⟩, ⟨by (with_reducible repeat (first | apply Kd.R_alloc | apply Kd.R_drewN | apply Kd.R_drew)); exact HO_11.out⟩, ⟨by (with_reducible repeat (first | refine blk_drewN ?_ _ | refine blk_drew ?_ | refine blk_alloc ?_ _)); exact BK178.out⟩, ⟨by repeat (first | (with_reducible first | exact HB.out | apply below_alloc | apply pw_below_drewN | apply below_drew1 | refine below_set ?_ GE178.out) | exact HB.out)⟩⟩
                                      · rw [if_neg c39] at H
                                        have c39b0 : (((rd_T56 t173 (ji34)).f1) == ((rd_T56 t173 x30_2).f0)) = false := beq_eq_false_iff_ne.mpr c39
                                        have c39b1 : (((rd_T56 t173 (ji34)).f1) != ((rd_T56 t173 x30_2).f0)) = true := bne_iff_ne.mpr c39
                                        have H' := Aside0.mk H
                                        clear H
                                        have hcz41_0 : wq.cell? ⟨gb178, 0, none⟩ = some (.int .i64 ((rd_T56 t173 x30_2).f0)) := (blk_cell BK178.out 0).trans rfl
                                        have hcz41_1 : wq.cell? ⟨gb178, 1, none⟩ = some (.int .i64 ((rd_T56 t173 x30_2).f1)) := (blk_cell BK178.out 1).trans rfl
                                        have hcz41_2 : wq.cell? ⟨gb178, 2, none⟩ = some (.int .i64 ((rd_T56 t173 x30_2).f2)) := (blk_cell BK178.out 2).trans rfl
                                        have hfz41_0 := blk_frozen BK178.out 0
                                        have hfz41_1 := blk_frozen BK178.out 1
                                        have hfz41_2 := blk_frozen BK178.out 2
                                        have p179 : 0 ≤ ((ji34) : Int) := of_decide_eq_true (by first | (with_reducible assumption) | assumption)
                                        have q179 : (ji34) < (t173.length : Int) := of_decide_eq_true (by first | (with_reducible assumption) | assumption)
                                        obtain ⟨ad179, e179, hx179_0, hx179_1, hx179_2⟩ := at_T56 (Kd.R_reads' HO_11.out).2.2 (ji34) p179 q179
                                        obtain rfl : ad177 = ad179 := (by injection e179)
                                        (try have hy179_0 := fun (n_ : Nat) => (show (((((w21.drewN n_).setCell ⟨gb178, 0, none⟩ (.int .i64 ((rd_T56 t173 x30_2).f0))).setCell ⟨gb178, 1, none⟩ (.int .i64 ((rd_T56 t173 x30_2).f1))).setCell ⟨gb178, 2, none⟩ (.int .i64 ((rd_T56 t173 x30_2).f2)))).cell? _ = some _ from hx179_0))
                                        (try have hy179_1 := fun (n_ : Nat) => (show (((((w21.drewN n_).setCell ⟨gb178, 0, none⟩ (.int .i64 ((rd_T56 t173 x30_2).f0))).setCell ⟨gb178, 1, none⟩ (.int .i64 ((rd_T56 t173 x30_2).f1))).setCell ⟨gb178, 2, none⟩ (.int .i64 ((rd_T56 t173 x30_2).f2)))).cell? _ = some _ from hx179_1))
                                        (try have hy179_2 := fun (n_ : Nat) => (show (((((w21.drewN n_).setCell ⟨gb178, 0, none⟩ (.int .i64 ((rd_T56 t173 x30_2).f0))).setCell ⟨gb178, 1, none⟩ (.int .i64 ((rd_T56 t173 x30_2).f1))).setCell ⟨gb178, 2, none⟩ (.int .i64 ((rd_T56 t173 x30_2).f2)))).cell? _ = some _ from hx179_2))
                                        replace p179 := eq_true p179
                                        replace q179 := eq_true q179
                                        have p180 : 0 ≤ ((ji34) : Int) := of_decide_eq_true (by first | (with_reducible assumption) | assumption)
                                        have q180 : (ji34) < (t173.length : Int) := of_decide_eq_true (by first | (with_reducible assumption) | assumption)
                                        obtain ⟨ad180, e180, hx180_0, hx180_1, hx180_2⟩ := at_T56 (Kd.R_reads' HO_11.out).2.2 (ji34) p180 q180
                                        obtain rfl : ad177 = ad180 := (by injection e180)
                                        (try have hy180_0 := fun (n_ : Nat) => (show (((((w21.drewN n_).setCell ⟨gb178, 0, none⟩ (.int .i64 ((rd_T56 t173 x30_2).f0))).setCell ⟨gb178, 1, none⟩ (.int .i64 ((rd_T56 t173 x30_2).f1))).setCell ⟨gb178, 2, none⟩ (.int .i64 ((rd_T56 t173 x30_2).f2)))).cell? _ = some _ from hx180_0))
                                        (try have hy180_1 := fun (n_ : Nat) => (show (((((w21.drewN n_).setCell ⟨gb178, 0, none⟩ (.int .i64 ((rd_T56 t173 x30_2).f0))).setCell ⟨gb178, 1, none⟩ (.int .i64 ((rd_T56 t173 x30_2).f1))).setCell ⟨gb178, 2, none⟩ (.int .i64 ((rd_T56 t173 x30_2).f2)))).cell? _ = some _ from hx180_1))
                                        (try have hy180_2 := fun (n_ : Nat) => (show (((((w21.drewN n_).setCell ⟨gb178, 0, none⟩ (.int .i64 ((rd_T56 t173 x30_2).f0))).setCell ⟨gb178, 1, none⟩ (.int .i64 ((rd_T56 t173 x30_2).f1))).setCell ⟨gb178, 2, none⟩ (.int .i64 ((rd_T56 t173 x30_2).f2)))).cell? _ = some _ from hx180_2))
                                        replace p180 := eq_true p180
                                        replace q180 := eq_true q180
                                        go_wp2
                                        repeat (go_quiet (fail); try go_wp2)
                                        go_meet
                                        case rel => exact ⟨_, (false), (by first | rfl | (simp; done) | (simp [*]; done)), H', ⟨by have := HJ5.out; have := HK2.out; first | omega | exact Nat.le_refl _⟩, ⟨by (with_reducible repeat (first | apply Kd.R_alloc | apply Kd.R_drewN | apply Kd.R_drew)); exact HO_11.out⟩, ⟨by (with_reducible repeat (first | refine blk_drewN ?_ _ | refine blk_drew ?_ | refine blk_alloc ?_ _)); exact BK178.out⟩, ⟨by repeat (first | (with_reducible first | exact HB.out | apply below_alloc | apply pw_below_drewN | apply below_drew1 | refine below_set ?_ GE178.out) | exact HB.out)⟩⟩
                                  · rw [if_neg c36] at H
                                    exact absurd H (by simp)
                                · rw [if_neg c35] at H
                                  exact absurd H (by simp)
                              · rw [if_neg c33] at H
                                have c33b0 : decide (0 < x30_2) = false := decide_eq_false c33
                                clear c33
                                have H' := Aside0.mk H
                                clear H
                                have hcz42_0 : wq.cell? ⟨gb178, 0, none⟩ = some (.int .i64 ((rd_T56 t173 x30_2).f0)) := (blk_cell BK178.out 0).trans rfl
                                have hcz42_1 : wq.cell? ⟨gb178, 1, none⟩ = some (.int .i64 ((rd_T56 t173 x30_2).f1)) := (blk_cell BK178.out 1).trans rfl
                                have hcz42_2 : wq.cell? ⟨gb178, 2, none⟩ = some (.int .i64 ((rd_T56 t173 x30_2).f2)) := (blk_cell BK178.out 2).trans rfl
                                have hfz42_0 := blk_frozen BK178.out 0
                                have hfz42_1 := blk_frozen BK178.out 1
                                have hfz42_2 := blk_frozen BK178.out 2
                                go_wp2
                                repeat (go_quiet (fail); try go_wp2)
                                go_meet
                                case rel => exact ⟨_, (false), (by first | rfl | (simp; done) | (simp [*]; done)), H', ⟨by have := HJ5.out; have := HK2.out; first | omega | exact Nat.le_refl _⟩, ⟨by (with_reducible repeat (first | apply Kd.R_alloc | apply Kd.R_drewN | apply Kd.R_drew)); exact HO_11.out⟩, ⟨by (with_reducible repeat (first | refine blk_drewN ?_ _ | refine blk_drew ?_ | refine blk_alloc ?_ _)); exact BK178.out⟩, ⟨by repeat (first | (with_reducible first | exact HB.out | apply below_alloc | apply pw_below_drewN | apply below_drew1 | refine below_set ?_ GE178.out) | exact HB.out)⟩⟩
                  case rest =>
                    clear HC20
                    try clear c1
                    try clear p1
                    try clear q1
                    try clear hx1
                    try clear c2
                    try clear p2
                    try clear c3
                    try clear p6
                    try clear c8
                    try clear c11
                    try clear c17
                    try clear c17b0
                    try clear p17
                    try clear q17
                    try clear hx17
                    try clear c18
                    try clear c18b0
                    try clear p18
                    try clear q18
                    try clear hx18
                    try clear c19
                    try clear c19b0
                    try clear c23
                    try clear c23b0
                    try clear c25
                    try clear c25b0
                    try clear c27
                    try clear c27b0
                    try clear c29
                    try clear c29b0
                    try clear c31
                    try clear c31b0
                    try clear c33
                    try clear c33b0
                    try clear c35
                    try clear c35b0
                    try clear c36
                    try clear c36b0
                    try clear c37
                    try clear c37b0
                    try clear c39
                    try clear c39b0
                    try clear c39b1
                    try clear hcz22_0
                    try clear hcz22_1
                    try clear hcz22_2
                    try clear hcz24_0
                    try clear hcz24_1
                    try clear hcz24_2
                    try clear hcz26_0
                    try clear hcz26_1
                    try clear hcz26_2
                    try clear hcz28_0
                    try clear hcz28_1
                    try clear hcz28_2
                    try clear hcz30_0
                    try clear hcz30_1
                    try clear hcz30_2
                    try clear hcz32_0
                    try clear hcz32_1
                    try clear hcz32_2
                    try clear hcz38_0
                    try clear hcz38_1
                    try clear hcz38_2
                    try clear hcz40_0
                    try clear hcz40_1
                    try clear hcz40_2
                    try clear hcz41_0
                    try clear hcz41_1
                    try clear hcz41_2
                    try clear hcz42_0
                    try clear hcz42_1
                    try clear hcz42_2
                    try clear hfz22_0
                    try clear hfz22_1
                    try clear hfz22_2
                    try clear hfz24_0
                    try clear hfz24_1
                    try clear hfz24_2
                    try clear hfz26_0
                    try clear hfz26_1
                    try clear hfz26_2
                    try clear hfz28_0
                    try clear hfz28_1
                    try clear hfz28_2
                    try clear hfz30_0
                    try clear hfz30_1
                    try clear hfz30_2
                    try clear hfz32_0
                    try clear hfz32_1
                    try clear hfz32_2
                    try clear hfz38_0
                    try clear hfz38_1
                    try clear hfz38_2
                    try clear hfz40_0
                    try clear hfz40_1
                    try clear hfz40_2
                    try clear hfz41_0
                    try clear hfz41_1
                    try clear hfz41_2
                    try clear hfz42_0
                    try clear hfz42_1
                    try clear hfz42_2
                    try clear hx177_0
                    try clear hx177_1
                    try clear hx177_2
                    try clear hx179_0
                    try clear hx179_1
                    try clear hx179_2
                    try clear hx180_0
                    try clear hx180_1
                    try clear hx180_2
                    try clear hx181_0
                    try clear hx181_1
                    try clear hx181_2
                    try clear p177
                    try clear p179
                    try clear p180
                    try clear p181
                    try clear p2
                    try clear q177
                    try clear q179
                    try clear q180
                    try clear q181
                    obtain ⟨kq, x102_19, rfl, HA, HJ19, HO_11, BK178, HB⟩ := hcut
                    cases kq with
                    | zero => exact absurd HA.out (by simp [decoupagelaw28_RasterRuns.j2])
                    | succ kj19 =>
                      have H := HA.out
                      clear HA
                      simp only [decoupagelaw28_RasterRuns.j2] at H
                      by_cases c43 : x102_19 = true
                      · subst c43
                        have H1 : (some false) = some r := by rw [if_pos rfl] at H; exact H
                        clear H
                        have H := H1
                        clear H1
                        obtain rfl := Option.some.inj H
                        go_wp2
                        repeat (go_quiet (fail); try go_wp2)
                        go_ret
                        exact ⟨by first | rfl | (simp [errW_none, errW_some] <;> rfl) | (simp [*, errW_none, errW_some] <;> rfl), by repeat (first | (with_reducible first | exact HB.out | apply below_alloc | apply pw_below_drewN | apply below_drew1 | refine below_set ?_ GE178.out) | exact HB.out)⟩
                      · replace c43 := Bool.eq_false_iff.mpr c43
                        subst c43
                        have H1 : (if a4 ≥ ((rd_T56 t173 x30_2).f0) then (if a4 < ((rd_T56 t173 x30_2).f1) then (decoupagelaw28_RasterRuns.l0 kj19 l0 a1 a2 a3 a4 t173 ((rd_T56 t173 x30_2).f2) (t173.length : Int) (wrap64 (x30_2 + 1))) else (decoupagelaw28_RasterRuns.l0 kj19 l0 a1 a2 a3 a4 t173 x12_2 (t173.length : Int) (wrap64 (x30_2 + 1)))) else (decoupagelaw28_RasterRuns.l0 kj19 l0 a1 a2 a3 a4 t173 x12_2 (t173.length : Int) (wrap64 (x30_2 + 1)))) = some r := by rw [if_neg (show ¬ (false = true) by decide)] at H; exact H
                        clear H
                        have H := H1
                        clear H1
                        by_cases c44 : a4 ≥ ((rd_T56 t173 x30_2).f0)
                        · rw [if_pos c44] at H
                          have c44b0 : decide (((rd_T56 t173 x30_2).f0) ≤ a4) = true := decide_eq_true c44
                          clear c44
                          by_cases c45 : a4 < ((rd_T56 t173 x30_2).f1)
                          · rw [if_pos c45] at H
                            have c45b0 : decide (a4 < ((rd_T56 t173 x30_2).f1)) = true := decide_eq_true c45
                            clear c45
                            have H' := Aside0.mk H
                            clear H
                            have hcz46_0 : wc.cell? ⟨gb178, 0, none⟩ = some (.int .i64 ((rd_T56 t173 x30_2).f0)) := (blk_cell BK178.out 0).trans rfl
                            have hcz46_1 : wc.cell? ⟨gb178, 1, none⟩ = some (.int .i64 ((rd_T56 t173 x30_2).f1)) := (blk_cell BK178.out 1).trans rfl
                            have hcz46_2 : wc.cell? ⟨gb178, 2, none⟩ = some (.int .i64 ((rd_T56 t173 x30_2).f2)) := (blk_cell BK178.out 2).trans rfl
                            have hfz46_0 := blk_frozen BK178.out 0
                            have hfz46_1 := blk_frozen BK178.out 1
                            have hfz46_2 := blk_frozen BK178.out 2
                            go_wp2
                            repeat (go_quiet (fail); try go_wp2)
                            go_roundg kj19
                            case measure => have := HJ5.out; have := HK2.out; have := HJ19.out; omega
                            case rel => exact ⟨(((rd_T56 t173 x30_2).f2)), (wrap64 (x30_2 + 1)), (by first | rfl | (simp; done) | (simp [*]; done)), (by first | rfl | (simp; done) | (simp [*]; done)), H', ⟨by have := HJ5.out; have := HK2.out; have := HJ19.out; omega⟩, ⟨by (with_reducible repeat (first | apply Kd.R_alloc | apply Kd.R_drewN | apply Kd.R_drew)); exact Kd.R_mono HO_11.out (fun _ hk => trivial)⟩, ⟨by repeat (first | (with_reducible first | exact HB.out | apply below_alloc | apply pw_below_drewN | apply below_drew1 | refine below_set ?_ GE178.out) | exact HB.out)⟩⟩
                          · rw [if_neg c45] at H
                            have c45b0 : decide (a4 < ((rd_T56 t173 x30_2).f1)) = false := decide_eq_false c45
                            clear c45
                            have H' := Aside0.mk H
                            clear H
                            have hcz47_0 : wc.cell? ⟨gb178, 0, none⟩ = some (.int .i64 ((rd_T56 t173 x30_2).f0)) := (blk_cell BK178.out 0).trans rfl
                            have hcz47_1 : wc.cell? ⟨gb178, 1, none⟩ = some (.int .i64 ((rd_T56 t173 x30_2).f1)) := (blk_cell BK178.out 1).trans rfl
                            have hcz47_2 : wc.cell? ⟨gb178, 2, none⟩ = some (.int .i64 ((rd_T56 t173 x30_2).f2)) := (blk_cell BK178.out 2).trans rfl
                            have hfz47_0 := blk_frozen BK178.out 0
                            have hfz47_1 := blk_frozen BK178.out 1
                            have hfz47_2 := blk_frozen BK178.out 2
                            go_wp2
                            repeat (go_quiet (fail); try go_wp2)
                            go_roundg kj19
                            case measure => have := HJ5.out; have := HK2.out; have := HJ19.out; omega
                            case rel => exact ⟨(x12_2), (wrap64 (x30_2 + 1)), (by first | rfl | (simp; done) | (simp [*]; done)), (by first | rfl | (simp; done) | (simp [*]; done)), H', ⟨by have := HJ5.out; have := HK2.out; have := HJ19.out; omega⟩, ⟨by (with_reducible repeat (first | apply Kd.R_alloc | apply Kd.R_drewN | apply Kd.R_drew)); exact Kd.R_mono HO_11.out (fun _ hk => trivial)⟩, ⟨by repeat (first | (with_reducible first | exact HB.out | apply below_alloc | apply pw_below_drewN | apply below_drew1 | refine below_set ?_ GE178.out) | exact HB.out)⟩⟩
                        · rw [if_neg c44] at H
                          have c44b0 : decide (((rd_T56 t173 x30_2).f0) ≤ a4) = false := decide_eq_false c44
                          clear c44
                          have H' := Aside0.mk H
                          clear H
                          have hcz48_0 : wc.cell? ⟨gb178, 0, none⟩ = some (.int .i64 ((rd_T56 t173 x30_2).f0)) := (blk_cell BK178.out 0).trans rfl
                          have hcz48_1 : wc.cell? ⟨gb178, 1, none⟩ = some (.int .i64 ((rd_T56 t173 x30_2).f1)) := (blk_cell BK178.out 1).trans rfl
                          have hcz48_2 : wc.cell? ⟨gb178, 2, none⟩ = some (.int .i64 ((rd_T56 t173 x30_2).f2)) := (blk_cell BK178.out 2).trans rfl
                          have hfz48_0 := blk_frozen BK178.out 0
                          have hfz48_1 := blk_frozen BK178.out 1
                          have hfz48_2 := blk_frozen BK178.out 2
                          go_wp2
                          repeat (go_quiet (fail); try go_wp2)
                          go_roundg kj19
                          case measure => have := HJ5.out; have := HK2.out; have := HJ19.out; omega
                          case rel => exact ⟨(x12_2), (wrap64 (x30_2 + 1)), (by first | rfl | (simp; done) | (simp [*]; done)), (by first | rfl | (simp; done) | (simp [*]; done)), H', ⟨by have := HJ5.out; have := HK2.out; have := HJ19.out; omega⟩, ⟨by (with_reducible repeat (first | apply Kd.R_alloc | apply Kd.R_drewN | apply Kd.R_drew)); exact Kd.R_mono HO_11.out (fun _ hk => trivial)⟩, ⟨by repeat (first | (with_reducible first | exact HB.out | apply below_alloc | apply pw_below_drewN | apply below_drew1 | refine below_set ?_ GE178.out) | exact HB.out)⟩⟩
                · rw [if_neg c19] at H
                  exact absurd H (by simp)
              · rw [if_neg c18] at H
                exact absurd H (by simp)
            · rw [if_neg c17] at H
              have c17b0 : decide (x30_2 < (t173.length : Int)) = false := decide_eq_false c17
              clear c17
              by_cases c49 : a4 < a2
              · rw [if_pos c49] at H
                have c49b0 : decide (a4 < a2) = true := decide_eq_true c49
                clear c49
                obtain rfl := Option.some.inj H
                go_wp2
                repeat (go_quiet (fail); try go_wp2)
                go_ret
                exact ⟨by first | rfl | (simp [errW_none, errW_some] <;> rfl) | (simp [*, errW_none, errW_some] <;> rfl), by repeat (first | (with_reducible first | exact HB.out | apply below_alloc | apply pw_below_drewN | apply below_drew1) | exact HB.out)⟩
              · rw [if_neg c49] at H
                have c49b0 : decide (a4 < a2) = false := decide_eq_false c49
                clear c49
                by_cases c50 : a4 ≥ a3
                · rw [if_pos c50] at H
                  have c50b0 : decide (a3 ≤ a4) = true := decide_eq_true c50
                  clear c50
                  obtain rfl := Option.some.inj H
                  go_wp2
                  repeat (go_quiet (fail); try go_wp2)
                  go_ret
                  exact ⟨by first | rfl | (simp [errW_none, errW_some] <;> rfl) | (simp [*, errW_none, errW_some] <;> rfl), by repeat (first | (with_reducible first | exact HB.out | apply below_alloc | apply pw_below_drewN | apply below_drew1) | exact HB.out)⟩
                · rw [if_neg c50] at H
                  have c50b0 : decide (a3 ≤ a4) = false := decide_eq_false c50
                  clear c50
                  replace H := Option.bind_eq_some_iff.mp H
                  obtain ⟨t176, A510, H⟩ := H
                  replace H : (some (x12_2 == t176)) = some r := H
                  have A51 := Aside0.mk A510
                  clear A510
                  obtain rfl := Option.some.inj H
                  go_wp2_with (first | (go_at_call 22; (with_reducible refine (decoupageref26_Owner.calls k2 _ _ l0 a4 a1 t176 _ ?side1 ?side2 A51.out).mono ?_); (case side1 => repeat (first | exact (Kd.C_below HR0.out HB.out) | (with_reducible refine Kd.C_alloc ?_ _) | (with_reducible refine Kd.C_drewN ?_ _) | (with_reducible refine Kd.C_drew ?_))); (case side2 => exact HC0.out); rintro e w52 ⟨rfl, hb⟩; have n0_ := Aside0.mk (Kd.R_below (by (with_reducible repeat (first | apply Kd.R_alloc | apply Kd.R_drewN | apply Kd.R_drew)); exact HO_11.out) hb); have n1_ := Aside0.mk (below_step (by repeat (first | (with_reducible first | exact HB.out | apply below_alloc | apply pw_below_drewN | apply below_drew1) | exact HB.out)) hb); clear HO_11; clear HB; have HO_11 := n0_; have HB := n1_; clear n0_ n1_; (try clear hb); (try clear hb2); (try clear hk); (try clear hi)))
                  repeat (go_quiet (first | (go_at_call 22; (with_reducible refine (decoupageref26_Owner.calls k2 _ _ l0 a4 a1 t176 _ ?side1 ?side2 A51.out).mono ?_); (case side1 => repeat (first | exact (Kd.C_below HR0.out HB.out) | (with_reducible refine Kd.C_alloc ?_ _) | (with_reducible refine Kd.C_drewN ?_ _) | (with_reducible refine Kd.C_drew ?_))); (case side2 => exact HC0.out); rintro e w52 ⟨rfl, hb⟩; have n0_ := Aside0.mk (Kd.R_below (by (with_reducible repeat (first | apply Kd.R_alloc | apply Kd.R_drewN | apply Kd.R_drew)); exact HO_11.out) hb); have n1_ := Aside0.mk (below_step (by repeat (first | (with_reducible first | exact HB.out | apply below_alloc | apply pw_below_drewN | apply below_drew1) | exact HB.out)) hb); clear HO_11; clear HB; have HO_11 := n0_; have HB := n1_; clear n0_ n1_; (try clear hb); (try clear hb2); (try clear hk); (try clear hi))); try go_wp2_with (first | (go_at_call 22; (with_reducible refine (decoupageref26_Owner.calls k2 _ _ l0 a4 a1 t176 _ ?side1 ?side2 A51.out).mono ?_); (case side1 => repeat (first | exact (Kd.C_below HR0.out HB.out) | (with_reducible refine Kd.C_alloc ?_ _) | (with_reducible refine Kd.C_drewN ?_ _) | (with_reducible refine Kd.C_drew ?_))); (case side2 => exact HC0.out); rintro e w52 ⟨rfl, hb⟩; have n0_ := Aside0.mk (Kd.R_below (by (with_reducible repeat (first | apply Kd.R_alloc | apply Kd.R_drewN | apply Kd.R_drew)); exact HO_11.out) hb); have n1_ := Aside0.mk (below_step (by repeat (first | (with_reducible first | exact HB.out | apply below_alloc | apply pw_below_drewN | apply below_drew1) | exact HB.out)) hb); clear HO_11; clear HB; have HO_11 := n0_; have HB := n1_; clear n0_ n1_; (try clear hb); (try clear hb2); (try clear hk); (try clear hi))))
                  go_ret
                  exact ⟨by first | rfl | (simp [errW_none, errW_some] <;> rfl) | (simp [*, errW_none, errW_some] <;> rfl), by repeat (first | (with_reducible first | exact HB.out | apply below_alloc | apply pw_below_drewN | apply below_drew1) | exact HB.out)⟩

end Go.Proofs.Ytppklhfiajjhmaa.PRasterRuns
