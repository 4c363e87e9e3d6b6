/- What is proved: contracts of functions that the law PU reaches, written by program. Conditions: none but those in each statement. -/
import Derived.Test.YtppklhfiajjhmaaZTilesNilPPUx0
import Derived.Test.YtppklhfiajjhmaaZTilesNilMPU5
import Derived.Test.YtppklhfiajjhmaaZTilesNilPPUx6
namespace Go.Proofs.Ytppklhfiajjhmaa.PPU
open Go.RowKit Go.Proofs.YtppklhfiajjhmaaW.PrintWords Go.Proofs.YtppklhfiajjhmaaW.PrintLast Go.Proofs.YtppklhfiajjhmaaW.PrintMore
attribute [local go_sem] max2_int min2_int max_two min_two max_three min_three max_four min_four   -- for this text's walks alone
set_option linter.unusedVariables false
set_option linter.unusedSimpArgs false

/-! ### cover_Join: function 44 -/
def cover_Join.l0 : Nat → List (S37) → List (S37) → Int → Int → Option ((List (S37)))
 | 0, _, _, _, _ => none
 | k + 1, x3, x6, x7, x8 => if x8 < x7 then (if 0 ≤ x8 then (if x8 < (x6.length : Int) then ((cover_Rest.f k ((rd_T37 x6 x8).f0) ((rd_T37 x6 x8).f1) ((rd_T37 x6 x8).f2) ((rd_T37 x6 x8).f3) x3).bind fun t244 => (if x3.length + t244.length < 4398046511104 then (cover_Join.l0 k (x3 ++ t244) x6 x7 (wrap64 (x8 + 1))) else (none))) else (none)) else (none)) else (some x3)
def cover_Join.f (k : Nat) (l0 : List (S37)) : Option ((List (S37))) := cover_Join.l0 k ([] : List (S37)) l0 (l0.length : Int) 0
theorem cover_Join.mono_l : ∀ k, (∀ y0 y1 y2 y3, LeO (cover_Join.l0 k y0 y1 y2 y3) (cover_Join.l0 (k + 1) y0 y1 y2 y3))
 | 0 => fun _ _ _ _ r h => by simp [cover_Join.l0] at h
 | k + 1 => by
  have ih0 := cover_Join.mono_l k
  ·intro y0 y1 y2 y3
   unfold cover_Join.l0
   repeat' first
   | (with_reducible exact ih0 _ _ _ _)
   | (with_reducible exact cover_Rest.mono _ _ _ _ _ _)
   | (with_reducible exact LeO.refl _)
   | (with_reducible exact LeO.none _)
   | (with_reducible refine LeO.ite ?_ ?_)
   | (with_reducible refine LeO.bind ?_ (fun _ => ?_))
   | exact ih0 _ _ _ _
   | exact cover_Rest.mono _ _ _ _ _ _
   | exact LeO.none _
   | refine LeO.ite ?_ ?_
   | refine LeO.bind ?_ (fun _ => ?_)
theorem cover_Join.mono : ∀ a0 k, LeO (cover_Join.f k a0) (cover_Join.f (k + 1) a0) := by
 intro a0 k
 have ih0 := cover_Join.mono_l k
 unfold cover_Join.f
 repeat' first
   | (with_reducible exact ih0 _ _ _ _)
   | (with_reducible exact cover_Rest.mono _ _ _ _ _ _)
   | (with_reducible exact LeO.refl _)
   | (with_reducible exact LeO.none _)
   | (with_reducible refine LeO.ite ?_ ?_)
   | (with_reducible refine LeO.bind ?_ (fun _ => ?_))
   | exact ih0 _ _ _ _
   | exact cover_Rest.mono _ _ _ _ _ _
   | exact LeO.none _
   | refine LeO.ite ?_ ?_
   | refine LeO.bind ?_ (fun _ => ?_)
set_option maxHeartbeats 8000000 in
set_option maxRecDepth 100000 in
theorem cover_Join.calls (k : Nat) (A0 : Option Addr) (c0 : Nat) (l0 : List (S37)) (r : List (S37)) (w : World) (hr0 : Kd.C k37 w A0 l0.length l0) (hc0 : l0.length ≤ c0) (h : cover_Join.f k l0 = some r) :
  Calls Try.prog 44 #[.slice A0 l0.length c0] w fun e w' => ∃ v0_ : Value, e = .returned (v0_) ∧ Kd.R k37 37 w' w.heap.size (fun _ => True) v0_ r ∧ Below w.heap.size w w' := by
 have hu37 := Try.underlying37
 have HR0 := Aside0.mk hr0
 have HC0 := Aside0.mk hc0
 clear hr0 hc0
 have HB := Aside0.mk (Below.refl w.heap.size w)
 have H : (cover_Join.l0 k ([] : List (S37)) l0 (l0.length : Int) 0) = some r := h
 clear h
 have H' := Aside0.mk H
 clear H
 go_enter Try.func44, Try.ntmps44
 go_wp2
 go_loopg [3, 8] k (fun kq v3 v8 w' => ∃ (x3_1 : List (S37)) (x8_1 : Int), v8 = .int .i64 x8_1 ∧ Aside0 (cover_Join.l0 kq x3_1 l0 (l0.length : Int) x8_1 = some r) ∧ Aside0 (kq ≤ k) ∧ Aside0 (Kd.R k37 37 w' w.heap.size (fun _ => True) v3 x3_1) ∧ Aside0 (Below w.heap.size w w'))
 case atStart => exact ⟨(([] : List (S37))), (0), (by first | rfl | (simp; done) | (simp [*]; done)), H', ⟨Nat.le_refl _⟩, ⟨by first | exact Kd.R_nil _ _ _ _ _ | exact Kd.N_nil _ _ _ _ _ | exact Kd.V_nil _ _ _ _ _ | exact Kd.Q_nil _ _ _ _ _ | exact Kd.S_nil _ _ _ _ _⟩, ⟨by repeat (first | (with_reducible first | exact HB.out | apply below_alloc | apply pw_below_drewN | apply below_drew1) | exact HB.out)⟩⟩
 case round =>
  clear H'
  obtain ⟨x3_1, x8_1, rfl, HA, HK1, HO_3, HB⟩ := hrel
  cases gk with
  | zero => exact absurd HA.out (by simp [cover_Join.l0])
  | succ k1 =>
   have H := HA.out
   clear HA
   simp only [cover_Join.l0] at H
   by_cases c2 : x8_1 < (l0.length : Int)
   ·rw [if_pos c2] at H
    have c2b0 : decide (x8_1 < (l0.length : Int)) = true := decide_eq_true c2
    clear c2
    by_cases c3 : 0 ≤ x8_1
    ·rw [if_pos c3] at H
     have c3b0 : decide (0 ≤ x8_1) = true := decide_eq_true c3
     clear c3
     by_cases c4 : x8_1 < (l0.length : Int)
     ·rw [if_pos c4] at H
      have c4b0 : decide (x8_1 < (l0.length : Int)) = true := decide_eq_true c4
      clear c4
      replace H := Option.bind_eq_some_iff.mp H
      obtain ⟨t244, A50, H⟩ := H
      replace H : (if x3_1.length + t244.length < 4398046511104 then (cover_Join.l0 k1 (x3_1 ++ t244) l0 (l0.length : Int) (wrap64 (x8_1 + 1))) else (none)) = some r := H
      have A5 := Aside0.mk A50
      clear A50
      by_cases c6 : x3_1.length + t244.length < 4398046511104
      ·rw [if_pos c6] at H
       have LMc6 := Aside0.mk c6
       clear c6
       obtain ⟨y247, hy247⟩ : ∃ y_ : List (S37), y_ = (x3_1 ++ t244) := ⟨_, rfl⟩
       replace H : (cover_Join.l0 k1 y247 l0 (l0.length : Int) (wrap64 (x8_1 + 1))) = some r := by first | (rw [hy247]; with_reducible exact H) | (have H2_ := (Option.bind_some _ _).symm.trans H; rw [hy247]; with_reducible exact H2_) | (have H2_ := (Option.bind_some _ _).symm.trans H; with_reducible exact H2_) | with_reducible exact H | (rw [hy247]; exact H) | exact H
       have Ny247 := Aside0.mk hy247
       clear hy247
       have H' := Aside0.mk H
       clear H
       have p242 : 0 ≤ (x8_1 : Int) := of_decide_eq_true (by first | (with_reducible assumption) | assumption)
       have q242 : x8_1 < (l0.length : Int) := of_decide_eq_true (by first | (with_reducible assumption) | assumption)
       obtain ⟨ad242, e242, hx242_0, hx242_1, hx242_2, hx242_3⟩ := at_T37 HR0.out x8_1 p242 q242
       cases e242
       replace hx242_0 := (HB.out.cell (World.block_lt_of_cell? w _ hx242_0)).trans hx242_0
       replace hx242_1 := (HB.out.cell (World.block_lt_of_cell? w _ hx242_1)).trans hx242_1
       replace hx242_2 := (HB.out.cell (World.block_lt_of_cell? w _ hx242_2)).trans hx242_2
       replace hx242_3 := (HB.out.cell (World.block_lt_of_cell? w _ hx242_3)).trans hx242_3
       replace p242 := eq_true p242
       replace q242 := eq_true q242
       go_wp2_with (first | ((with_reducible refine gate_dst (N := 5) rfl ?_); refine box_event ?hg (N := 5) ?hd (cs := #[.int .i64 0, .int .i64 0, .int .i64 0, .int .i64 0]) (t := 37) ?hr ?_; (case hd => rfl); (case hg => rfl); (case hr => first | (go_simp; done) | (go_simp; rfl)); intro gb243 hg w7 hbox hb; have n0_ := Aside0.mk (Kd.R_below (Kd.R_elderB (by (with_reducible repeat (first | apply Kd.R_alloc | apply Kd.R_drewN | apply Kd.R_drew)); exact HO_3.out) gb243 (Nat.le_of_eq hg.symm)) hb); have n1_ := Aside0.mk (below_step (by repeat (first | (with_reducible first | exact HB.out | apply below_alloc | apply pw_below_drewN | apply below_drew1) | exact HB.out)) hb); have n2_ := Aside0.mk (hbox); have n3_ := Aside0.mk ((by rw [hg]; exact (below_size (by repeat (first | (with_reducible first | exact HB.out | apply below_alloc | apply pw_below_drewN | apply below_drew1) | exact HB.out))) : w.heap.size ≤ gb243)); have n4_ := Aside0.mk ((by rw [hg]; exact (below_size (by repeat (first | (with_reducible first | exact HB.out | apply below_alloc | apply pw_below_drewN | apply below_drew1) | exact HB.out))) : w.heap.size ≤ gb243)); clear HO_3; clear HB; have HO_3 := n0_; have HB := n1_; have BK243 := n2_; have GW243 := n3_; have GE243 := n4_; clear n0_ n1_ n2_ n3_ n4_; clear hb hbox hg; have hcz8_0 : w7.cell? ⟨gb243, 0, none⟩ = some (.int .i64 0) := (blk_cell BK243.out 0).trans rfl; have hcz8_1 : w7.cell? ⟨gb243, 1, none⟩ = some (.int .i64 0) := (blk_cell BK243.out 1).trans rfl; have hcz8_2 : w7.cell? ⟨gb243, 2, none⟩ = some (.int .i64 0) := (blk_cell BK243.out 2).trans rfl; have hcz8_3 : w7.cell? ⟨gb243, 3, none⟩ = some (.int .i64 0) := (blk_cell BK243.out 3).trans rfl; have hfz8_0 := blk_frozen BK243.out 0; have hfz8_1 := blk_frozen BK243.out 1; have hfz8_2 := blk_frozen BK243.out 2; have hfz8_3 := blk_frozen BK243.out 3; obtain ⟨Ao9, co9, eo9⟩ := Kd.R_slice HO_3.out; subst eo9) | ((with_reducible refine gate_callee (f := 58) rfl ?_); refine goesL_ (some 15) rfl rfl Try.func58 (by kernel_rfl) rfl #[.agg #[.int .i64 ((rd_T37 l0 x8_1).f0), .int .i64 ((rd_T37 l0 x8_1).f1), .int .i64 ((rd_T37 l0 x8_1).f2), .int .i64 ((rd_T37 l0 x8_1).f3)], .slice Ao9 x3_1.length co9] rfl (by (try simp only [List.map_toArray, List.map_cons, List.map_nil]); first | done | rfl | (simp only [List.length_drop, List.length_take]; rfl)) ?_; (with_reducible refine (cover_Rest.calls k1 ((rd_T37 l0 x8_1).f0) ((rd_T37 l0 x8_1).f1) ((rd_T37 l0 x8_1).f2) ((rd_T37 l0 x8_1).f3) _ _ x3_1 t244 _ ?side1 ?side2 A5.out).mono ?_); (case side1 => refine (Kd.R_reads' (e := 37) (base := w.heap.size) (ok := fun k_ => (True ∧ k_ ≠ gb243)) (n := x3_1.length) (c := co9) ?_).2.2; exact (by (with_reducible repeat (first | apply Kd.R_alloc | apply Kd.R_drewN | apply Kd.R_drew)); exact (Kd.R_mono (Kd.R_far (p := ⟨gb243, 3, none⟩) (Kd.R_far (p := ⟨gb243, 2, none⟩) (Kd.R_far (p := ⟨gb243, 1, none⟩) (Kd.R_far (p := ⟨gb243, 0, none⟩) (Kd.R_mono HO_3.out (fun k_ hk => (⟨hk, hk.2⟩ : _ ∧ k_ ≠ gb243))) (fun _ hk => hk.2) (.int .i64 ((rd_T37 l0 x8_1).f0))) (fun _ hk => hk.2) (.int .i64 ((rd_T37 l0 x8_1).f1))) (fun _ hk => hk.2) (.int .i64 ((rd_T37 l0 x8_1).f2))) (fun _ hk => hk.2) (.int .i64 ((rd_T37 l0 x8_1).f3))) (fun _ h_ => h_.1)))); (case side2 => exact (Kd.R_reads' HO_3.out).2.1); rintro e w10 ⟨v245, rfl, ho0, hb⟩; refine ⟨_, rfl, ?_⟩; have n0_ := Aside0.mk (Kd.R_elder' (by (with_reducible repeat (first | apply Kd.R_alloc | apply Kd.R_drewN | apply Kd.R_drew)); exact (Kd.R_mono (Kd.R_far (p := ⟨gb243, 3, none⟩) (Kd.R_far (p := ⟨gb243, 2, none⟩) (Kd.R_far (p := ⟨gb243, 1, none⟩) (Kd.R_far (p := ⟨gb243, 0, none⟩) (Kd.R_mono HO_3.out (fun k_ hk => (⟨hk, hk.2⟩ : _ ∧ k_ ≠ gb243))) (fun _ hk => hk.2) (.int .i64 ((rd_T37 l0 x8_1).f0))) (fun _ hk => hk.2) (.int .i64 ((rd_T37 l0 x8_1).f1))) (fun _ hk => hk.2) (.int .i64 ((rd_T37 l0 x8_1).f2))) (fun _ hk => hk.2) (.int .i64 ((rd_T37 l0 x8_1).f3))) (fun _ h_ => h_.1))) (Kd.R_base ho0) hb); have n1_ := Aside0.mk (Kd.R_lower (Kd.R_newB (Kd.R_new' ho0 (Kd.R_lt (by (with_reducible repeat (first | apply Kd.R_alloc | apply Kd.R_drewN | apply Kd.R_drew)); exact (Kd.R_mono (Kd.R_far (p := ⟨gb243, 3, none⟩) (Kd.R_far (p := ⟨gb243, 2, none⟩) (Kd.R_far (p := ⟨gb243, 1, none⟩) (Kd.R_far (p := ⟨gb243, 0, none⟩) (Kd.R_mono HO_3.out (fun k_ hk => (⟨hk, hk.2⟩ : _ ∧ k_ ≠ gb243))) (fun _ hk => hk.2) (.int .i64 ((rd_T37 l0 x8_1).f0))) (fun _ hk => hk.2) (.int .i64 ((rd_T37 l0 x8_1).f1))) (fun _ hk => hk.2) (.int .i64 ((rd_T37 l0 x8_1).f2))) (fun _ hk => hk.2) (.int .i64 ((rd_T37 l0 x8_1).f3))) (fun _ h_ => h_.1))))) (g := gb243) (o := .cells #[.int .i64 ((rd_T37 l0 x8_1).f0), .int .i64 ((rd_T37 l0 x8_1).f1), .int .i64 ((rd_T37 l0 x8_1).f2), .int .i64 ((rd_T37 l0 x8_1).f3)] 37 (0, 0)) (by (with_reducible repeat (first | refine blk_drewN ?_ _ | refine blk_drew ?_ | refine blk_alloc ?_ _)); refine blk_put (cs := #[.int .i64 ((rd_T37 l0 x8_1).f0), .int .i64 ((rd_T37 l0 x8_1).f1), .int .i64 ((rd_T37 l0 x8_1).f2), .int .i64 0]) ?_ 3 _ rfl; (with_reducible repeat (first | refine blk_drewN ?_ _ | refine blk_drew ?_ | refine blk_alloc ?_ _)); refine blk_put (cs := #[.int .i64 ((rd_T37 l0 x8_1).f0), .int .i64 ((rd_T37 l0 x8_1).f1), .int .i64 0, .int .i64 0]) ?_ 2 _ rfl; (with_reducible repeat (first | refine blk_drewN ?_ _ | refine blk_drew ?_ | refine blk_alloc ?_ _)); refine blk_put (cs := #[.int .i64 ((rd_T37 l0 x8_1).f0), .int .i64 0, .int .i64 0, .int .i64 0]) ?_ 1 _ rfl; (with_reducible repeat (first | refine blk_drewN ?_ _ | refine blk_drew ?_ | refine blk_alloc ?_ _)); refine blk_put (cs := #[.int .i64 0, .int .i64 0, .int .i64 0, .int .i64 0]) ?_ 0 _ rfl; (with_reducible repeat (first | refine blk_drewN ?_ _ | refine blk_drew ?_ | refine blk_alloc ?_ _)); exact BK243.out)) (below_size (by repeat (first | (with_reducible first | exact HB.out | apply below_alloc | apply pw_below_drewN | apply below_drew1 | refine below_set ?_ GE243.out) | exact HB.out)))); have n2_ := Aside0.mk (blk_below (g := gb243) (o := .cells #[.int .i64 ((rd_T37 l0 x8_1).f0), .int .i64 ((rd_T37 l0 x8_1).f1), .int .i64 ((rd_T37 l0 x8_1).f2), .int .i64 ((rd_T37 l0 x8_1).f3)] 37 (0, 0)) (by (with_reducible repeat (first | refine blk_drewN ?_ _ | refine blk_drew ?_ | refine blk_alloc ?_ _)); refine blk_put (cs := #[.int .i64 ((rd_T37 l0 x8_1).f0), .int .i64 ((rd_T37 l0 x8_1).f1), .int .i64 ((rd_T37 l0 x8_1).f2), .int .i64 0]) ?_ 3 _ rfl; (with_reducible repeat (first | refine blk_drewN ?_ _ | refine blk_drew ?_ | refine blk_alloc ?_ _)); refine blk_put (cs := #[.int .i64 ((rd_T37 l0 x8_1).f0), .int .i64 ((rd_T37 l0 x8_1).f1), .int .i64 0, .int .i64 0]) ?_ 2 _ rfl; (with_reducible repeat (first | refine blk_drewN ?_ _ | refine blk_drew ?_ | refine blk_alloc ?_ _)); refine blk_put (cs := #[.int .i64 ((rd_T37 l0 x8_1).f0), .int .i64 0, .int .i64 0, .int .i64 0]) ?_ 1 _ rfl; (with_reducible repeat (first | refine blk_drewN ?_ _ | refine blk_drew ?_ | refine blk_alloc ?_ _)); refine blk_put (cs := #[.int .i64 0, .int .i64 0, .int .i64 0, .int .i64 0]) ?_ 0 _ rfl; (with_reducible repeat (first | refine blk_drewN ?_ _ | refine blk_drew ?_ | refine blk_alloc ?_ _)); exact BK243.out) hb); have n3_ := Aside0.mk (below_step (by repeat (first | (with_reducible first | exact HB.out | apply below_alloc | apply pw_below_drewN | apply below_drew1 | refine below_set ?_ GE243.out) | exact HB.out)) hb); clear HO_3; clear BK243; clear HB; have HO_3 := n0_; have HO246 := n1_; have BK243 := n2_; have HB := n3_; clear n0_ n1_ n2_ n3_; (try clear hb); (try clear hb2); (try clear hk); (try clear hi); (try clear ho0); obtain ⟨Ao12, co12, eo12⟩ := Kd.R_slice HO246.out; subst eo12) | ((with_reducible refine gate_builtin (b := .append) (xs := #[.tmp 12, .tmp 15]) rfl ?_); at_builtin; refine Kd.R_append_rows k37 (w0 := w) w.heap.size rfl (.tmp 12) (.tmp 15) 29 37 (.agg #[(.int .i64 0), (.int .i64 0), (.int .i64 0), (.int .i64 0)]) 32 rfl Try.underlying29 info37 rfl (by decide) (by omega) (.slice Ao9 x3_1.length co9) x3_1 t244 _ _ _ (fun k_ => some k_ ≠ (.slice Ao12 t244.length co12 : Value).ownBlock ∧ k_ ≠ gb243) (fun _ => False) rfl rfl ?aO ?aR (fun _ _ h => h) (fun _ h => h.elim) ?aF ?aB ?aS ?aL ?_; (case aR => repeat (first | exact (Kd.R_reads' HO246.out).2.2 | (with_reducible refine Kd.C_alloc ?_ _) | (with_reducible refine Kd.C_drewN ?_ _) | (with_reducible refine Kd.C_drew ?_))); (case aB => exact (by repeat (first | (with_reducible first | exact HB.out | apply below_alloc | apply pw_below_drewN | apply below_drew1 | refine below_set ?_ GE243.out) | exact HB.out))); (case aF => exact (fun k_ hk => ⟨Kd.fresh' (Kd.R_lt (by (with_reducible repeat (first | apply Kd.R_alloc | apply Kd.R_drewN | apply Kd.R_drew)); exact HO246.out)) k_ hk, Kd.freshB (g := gb243) (o := .cells #[.int .i64 ((rd_T37 l0 x8_1).f0), .int .i64 ((rd_T37 l0 x8_1).f1), .int .i64 ((rd_T37 l0 x8_1).f2), .int .i64 ((rd_T37 l0 x8_1).f3)] 37 (0, 0)) (by (with_reducible repeat (first | refine blk_drewN ?_ _ | refine blk_drew ?_ | refine blk_alloc ?_ _)); exact BK243.out) k_ hk⟩)); (case aO => exact (by (with_reducible repeat (first | apply Kd.R_alloc | apply Kd.R_drewN | apply Kd.R_drew)); exact Kd.R_mono HO_3.out (fun _ hk => ⟨hk.2, hk.1.2⟩))); (case aS => exact (below_size (by repeat (first | (with_reducible first | exact HB.out | apply below_alloc | apply pw_below_drewN | apply below_drew1 | refine below_set ?_ GE243.out) | exact HB.out)))); (case aL => have := LMc6.out; omega); intro v248 w11 ho hb hg hat; rw [← Ny247.out] at ho; have n0_ := Aside0.mk (blk_grown (g := gb243) (o := .cells #[.int .i64 ((rd_T37 l0 x8_1).f0), .int .i64 ((rd_T37 l0 x8_1).f1), .int .i64 ((rd_T37 l0 x8_1).f2), .int .i64 ((rd_T37 l0 x8_1).f3)] 37 (0, 0)) (by (with_reducible repeat (first | refine blk_drewN ?_ _ | refine blk_drew ?_ | refine blk_alloc ?_ _)); exact BK243.out) hg (Kd.R_away HO_3.out (fun _ hk => hk.1.2))); have n1_ := Aside0.mk (Kd.R_after (ok := (fun k_ => k_ ≠ gb243)) (by (with_reducible repeat (first | apply Kd.R_alloc | apply Kd.R_drewN | apply Kd.R_drew)); exact Kd.R_mono HO246.out (fun _ hk => ⟨hk.2, hk.1.2⟩)) hg hat); have n2_ := Aside0.mk (hb); have n3_ := Aside0.mk (ho); clear BK243; clear HO246; clear HB; clear HO_3; have BK243 := n0_; have HO246 := n1_; have HB := n2_; have HO249 := n3_; clear n0_ n1_ n2_ n3_; clear ho hb hg hat))
       go_roundg k1
       case measure => have := HK1.out; omega
       case rel => exact ⟨(y247), (wrap64 (x8_1 + 1)), (by first | rfl | (simp; done) | (simp [*]; done)), H', ⟨by have := HK1.out; omega⟩, ⟨by (with_reducible repeat (first | apply Kd.R_alloc | apply Kd.R_drewN | apply Kd.R_drew)); exact Kd.R_mono HO249.out (fun _ hk => trivial)⟩, ⟨by repeat (first | (with_reducible first | exact HB.out | apply below_alloc | apply pw_below_drewN | apply below_drew1 | refine below_set ?_ GE243.out) | exact HB.out)⟩⟩
      ·rw [if_neg c6] at H
       exact absurd H (by simp)
     ·rw [if_neg c4] at H
      exact absurd H (by simp)
    ·rw [if_neg c3] at H
     exact absurd H (by simp)
   ·rw [if_neg c2] at H
    have c2b0 : decide (x8_1 < (l0.length : Int)) = false := decide_eq_false c2
    clear c2
    obtain rfl := Option.some.inj H
    go_wp2
    go_ret
    exact ⟨_, by first | rfl | (simp [errW_none, errW_some] <;> rfl) | (simp [*, errW_none, errW_some] <;> rfl), by (with_reducible repeat (first | apply Kd.R_alloc | apply Kd.R_drewN | apply Kd.R_drew)); exact HO_3.out, by repeat (first | (with_reducible first | exact HB.out | apply below_alloc | apply pw_below_drewN | apply below_drew1) | exact HB.out)⟩

/-! ### harm_Of: function 18 -/
def harm_Of.l0 : Nat → List (S37) → List (S39) → Int → Int → Option ((List (S37)))
 | 0, _, _, _, _ => none
 | k + 1, x7, x18, x19, x20 => if x20 < x19 then (if 0 ≤ x20 then (if x20 < (x18.length : Int) then ((owner_Seen.f ((rd_T39 x18 x20).f0) ((rd_T39 x18 x20).f1) ((rd_T39 x18 x20).f2.f0) ((rd_T39 x18 x20).f2.f1) ((rd_T39 x18 x20).f2.f2) ((rd_T39 x18 x20).f2.f3) ((rd_T39 x18 x20).f3.f0) ((rd_T39 x18 x20).f3.f1) ((rd_T39 x18 x20).f3.f2) ((rd_T39 x18 x20).f3.f3) ((rd_T39 x18 x20).f4.f0) ((rd_T39 x18 x20).f4.f1) ((rd_T39 x18 x20).f4.f2) ((rd_T39 x18 x20).f4.f3) ((rd_T39 x18 x20).f5)).bind fun bt261 => (if x7.length < 4398046511104 then (harm_Of.l0 k (x7 ++ [(⟨bt261.1, bt261.2.1, bt261.2.2.1, bt261.2.2.2⟩ : S37)]) x18 x19 (wrap64 (x20 + 1))) else (none))) else (none)) else (none)) else ((cover_Join.f k x7).bind fun t268 => (some t268))
def harm_Of.f (k : Nat) (l0 : List (S39)) (l1 : List (S39)) : Option ((List (S37))) := (harm_Parts.f k l0 l1).bind fun bt250 => (if bt250.1.length + bt250.2.length < 1172812402961 then ((some (bt250.1 ++ bt250.2 : List (S39))).bind fun y256 => (harm_Of.l0 k ([] : List (S37)) y256 (y256.length : Int) 0)) else (none))
theorem harm_Of.mono_l : ∀ k, (∀ y0 y1 y2 y3, LeO (harm_Of.l0 k y0 y1 y2 y3) (harm_Of.l0 (k + 1) y0 y1 y2 y3))
 | 0 => fun _ _ _ _ r h => by simp [harm_Of.l0] at h
 | k + 1 => by
  have ih0 := harm_Of.mono_l k
  ·intro y0 y1 y2 y3
   unfold harm_Of.l0
   repeat' first
   | (with_reducible exact ih0 _ _ _ _)
   | (with_reducible exact cover_Join.mono _ _)
   | (with_reducible exact harm_Parts.mono _ _ _)
   | (with_reducible exact LeO.refl _)
   | (with_reducible exact LeO.none _)
   | (with_reducible refine LeO.ite ?_ ?_)
   | (with_reducible refine LeO.bind ?_ (fun _ => ?_))
   | exact ih0 _ _ _ _
   | exact cover_Join.mono _ _
   | exact harm_Parts.mono _ _ _
   | exact LeO.none _
   | refine LeO.ite ?_ ?_
   | refine LeO.bind ?_ (fun _ => ?_)
theorem harm_Of.mono : ∀ a0 a1 k, LeO (harm_Of.f k a0 a1) (harm_Of.f (k + 1) a0 a1) := by
 intro a0 a1 k
 have ih0 := harm_Of.mono_l k
 unfold harm_Of.f
 repeat' first
   | (with_reducible exact ih0 _ _ _ _)
   | (with_reducible exact cover_Join.mono _ _)
   | (with_reducible exact harm_Parts.mono _ _ _)
   | (with_reducible exact LeO.refl _)
   | (with_reducible exact LeO.none _)
   | (with_reducible refine LeO.ite ?_ ?_)
   | (with_reducible refine LeO.bind ?_ (fun _ => ?_))
   | exact ih0 _ _ _ _
   | exact cover_Join.mono _ _
   | exact harm_Parts.mono _ _ _
   | exact LeO.none _
   | refine LeO.ite ?_ ?_
   | refine LeO.bind ?_ (fun _ => ?_)
set_option maxHeartbeats 8000000 in
set_option maxRecDepth 100000 in
theorem harm_Of.calls (k : Nat) (A0 : Option Addr) (c0 : Nat) (l0 : List (S39)) (A1 : Option Addr) (c1 : Nat) (l1 : List (S39)) (r : List (S37)) (w : World) (hr0 : Kd.C k39 w A0 l0.length l0) (hc0 : l0.length ≤ c0) (hr1 : Kd.C k39 w A1 l1.length l1) (hc1 : l1.length ≤ c1) (h : harm_Of.f k l0 l1 = some r) :
  Calls Try.prog 18 #[.slice A0 l0.length c0, .slice A1 l1.length c1] w fun e w' => ∃ v0_ : Value, e = .returned (v0_) ∧ Kd.R k37 37 w' w.heap.size (fun _ => True) v0_ r ∧ Below w.heap.size w w' := by
 have hu39 := Try.underlying39
 have HR0 := Aside0.mk hr0
 have HC0 := Aside0.mk hc0
 clear hr0 hc0
 have HR1 := Aside0.mk hr1
 have HC1 := Aside0.mk hc1
 clear hr1 hc1
 have HB := Aside0.mk (Below.refl w.heap.size w)
 have H : ((harm_Parts.f k l0 l1).bind fun bt250 => (if bt250.1.length + bt250.2.length < 1172812402961 then ((some (bt250.1 ++ bt250.2 : List (S39))).bind fun y256 => (harm_Of.l0 k ([] : List (S37)) y256 (y256.length : Int) 0)) else (none))) = some r := h
 clear h
 replace H := Option.bind_eq_some_iff.mp H
 obtain ⟨⟨t250, t253⟩, A30, H⟩ := H
 replace H : (if t250.length + t253.length < 1172812402961 then ((some (t250 ++ t253 : List (S39))).bind fun y256 => (harm_Of.l0 k ([] : List (S37)) y256 (y256.length : Int) 0)) else (none)) = some r := H
 have A3 := Aside0.mk A30
 clear A30
 by_cases c4 : t250.length + t253.length < 1172812402961
 ·rw [if_pos c4] at H
  have LMc4 := Aside0.mk c4
  clear c4
  obtain ⟨y256, hy256⟩ : ∃ y_ : List (S39), y_ = (t250 ++ t253) := ⟨_, rfl⟩
  replace H : (harm_Of.l0 k ([] : List (S37)) y256 (y256.length : Int) 0) = some r := by first | (rw [hy256]; with_reducible exact H) | (have H2_ := (Option.bind_some _ _).symm.trans H; rw [hy256]; with_reducible exact H2_) | (have H2_ := (Option.bind_some _ _).symm.trans H; with_reducible exact H2_) | with_reducible exact H | (rw [hy256]; exact H) | exact H
  have Ny256 := Aside0.mk hy256
  clear hy256
  have H' := Aside0.mk H
  clear H
  go_enter Try.func18, Try.ntmps18
  go_wp2_with (first | ((with_reducible refine gate_callee (f := 16) rfl ?_); refine goesL_ (some 13) rfl rfl Try.func16 (by kernel_rfl) rfl #[.slice A0 l0.length c0, .slice A1 l1.length c1] rfl (by (try simp only [List.map_toArray, List.map_cons, List.map_nil]); first | done | rfl | (simp only [List.length_drop, List.length_take]; rfl)) ?_; (with_reducible refine (harm_Parts.calls k (fun k_ => k_ < w.heap.size) _ _ l0 (fun k_ => k_ < w.heap.size) _ _ l1 t250 t253 _ ?side1 ?side2 A3.out).mono ?_); (case side1 => exact Kd.V_mk HC0.out (Kd.F_below (Kd.C_F k39_heap HR0.out) (by repeat (first | (with_reducible first | exact HB.out | apply below_alloc | apply pw_below_drewN | apply below_drew1) | exact HB.out)))); (case side2 => exact Kd.V_mk HC1.out (Kd.F_below (Kd.C_F k39_heap HR1.out) (by repeat (first | (with_reducible first | exact HB.out | apply below_alloc | apply pw_below_drewN | apply below_drew1) | exact HB.out)))); rintro e w5 ⟨v251, v254, rfl, ho0, ho1, hb⟩; refine ⟨_, rfl, ?_⟩; have n0_ := Aside0.mk (Kd.R_lower (Kd.R_mono (ok' := fun k_ => some k_ ≠ (v254 : Value).ownBlock) ho0 (fun _ hk_ => hk_.2)) (below_size (by repeat (first | (with_reducible first | exact HB.out | apply below_alloc | apply pw_below_drewN | apply below_drew1) | exact HB.out)))); have n1_ := Aside0.mk (Kd.R_lower (Kd.R_mono (ok' := fun k_ => some k_ ≠ (v251 : Value).ownBlock) ho1 (fun _ hk_ => hk_.2)) (below_size (by repeat (first | (with_reducible first | exact HB.out | apply below_alloc | apply pw_below_drewN | apply below_drew1) | exact HB.out)))); have n2_ := Aside0.mk (below_step (by repeat (first | (with_reducible first | exact HB.out | apply below_alloc | apply pw_below_drewN | apply below_drew1) | exact HB.out)) hb); clear HB; have HO252 := n0_; have HO255 := n1_; have HB := n2_; clear n0_ n1_ n2_; (try clear hb); (try clear hb2); (try clear hk); (try clear hi); (try clear ho0); (try clear ho1); obtain ⟨Ao7, co7, eo7⟩ := Kd.R_slice HO255.out; subst eo7) | ((with_reducible refine gate_builtin (b := .append) (xs := #[.tmp 16, .tmp 17]) rfl ?_); at_builtin; refine Kd.R_append_rows k39 (w0 := w) w.heap.size rfl (.tmp 16) (.tmp 17) 22 39 (.agg #[(.int .i64 0), (.int .i64 0), (.int .i64 0), (.int .i64 0), (.int .i64 0), (.int .i64 0), (.int .i64 0), (.int .i64 0), (.int .i64 0), (.int .i64 0), (.int .i64 0), (.int .i64 0), (.int .i64 0), (.int .i64 0), (.int .i64 0)]) 120 rfl Try.underlying22 info39 rfl (by decide) (by omega) v251 t250 t253 _ _ _ (fun k_ => some k_ ≠ (.slice Ao7 t253.length co7 : Value).ownBlock) (fun _ => False) rfl rfl ?aO ?aR (fun _ _ h => h) (fun _ h => h.elim) ?aF ?aB ?aS ?aL ?_; (case aR => repeat (first | exact (Kd.R_reads' HO255.out).2.2 | (with_reducible refine Kd.C_alloc ?_ _) | (with_reducible refine Kd.C_drewN ?_ _) | (with_reducible refine Kd.C_drew ?_))); (case aB => exact (by repeat (first | (with_reducible first | exact HB.out | apply below_alloc | apply pw_below_drewN | apply below_drew1) | exact HB.out))); (case aF => exact (fun k_ hk => Kd.fresh' (Kd.R_lt (by (with_reducible repeat (first | apply Kd.R_alloc | apply Kd.R_drewN | apply Kd.R_drew)); exact HO255.out)) k_ hk)); (case aO => exact (by (with_reducible repeat (first | apply Kd.R_alloc | apply Kd.R_drewN | apply Kd.R_drew)); exact HO252.out)); (case aS => exact (below_size (by repeat (first | (with_reducible first | exact HB.out | apply below_alloc | apply pw_below_drewN | apply below_drew1) | exact HB.out)))); (case aL => have := LMc4.out; omega); intro v257 w6 ho hb hg hat; rw [← Ny256.out] at ho; have n0_ := Aside0.mk (Kd.R_after (ok := (fun _ => True)) (by (with_reducible repeat (first | apply Kd.R_alloc | apply Kd.R_drewN | apply Kd.R_drew)); exact Kd.R_mono HO255.out (fun _ hk => ⟨trivial, hk⟩)) hg hat); have n1_ := Aside0.mk (hb); have n2_ := Aside0.mk (ho); clear HO255; clear HB; clear HO252; have HO255 := n0_; have HB := n1_; have HO258 := n2_; clear n0_ n1_ n2_; clear ho hb hg hat; obtain ⟨Ao8, co8, eo8⟩ := Kd.R_slice HO258.out; subst eo8))
  go_loopg [7, 20] k (fun kq v7 v20 w' => ∃ (x7_1 : List (S37)) (x20_1 : Int), v20 = .int .i64 x20_1 ∧ Aside0 (harm_Of.l0 kq x7_1 y256 (y256.length : Int) x20_1 = some r) ∧ Aside0 (kq ≤ k) ∧ Aside0 (Kd.R k37 37 w' w.heap.size (fun _ => True) v7 x7_1) ∧ Aside0 (Kd.R k39 39 w' w.heap.size (fun _ => True) (.slice Ao8 y256.length co8) y256) ∧ Aside0 (Below w.heap.size w w'))
  case atStart => exact ⟨(([] : List (S37))), (0), (by first | rfl | (simp; done) | (simp [*]; done)), H', ⟨Nat.le_refl _⟩, ⟨by first | exact Kd.R_nil _ _ _ _ _ | exact Kd.N_nil _ _ _ _ _ | exact Kd.V_nil _ _ _ _ _ | exact Kd.Q_nil _ _ _ _ _ | exact Kd.S_nil _ _ _ _ _⟩, ⟨by (with_reducible repeat (first | apply Kd.R_alloc | apply Kd.R_drewN | apply Kd.R_drew)); exact Kd.R_mono HO258.out (fun _ hk => trivial)⟩, ⟨by repeat (first | (with_reducible first | exact HB.out | apply below_alloc | apply pw_below_drewN | apply below_drew1) | exact HB.out)⟩⟩
  case round =>
   clear H'
   try clear c1
   try clear p2
   try clear c4
   obtain ⟨x7_1, x20_1, rfl, HA, HK1, HO_7, HO_18, HB⟩ := hrel
   cases gk with
   | zero => exact absurd HA.out (by simp [harm_Of.l0])
   | succ k1 =>
    have H := HA.out
    clear HA
    simp only [harm_Of.l0] at H
    by_cases c9 : x20_1 < (y256.length : Int)
    ·rw [if_pos c9] at H
     have c9b0 : decide (x20_1 < (y256.length : Int)) = true := decide_eq_true c9
     clear c9
     by_cases c10 : 0 ≤ x20_1
     ·rw [if_pos c10] at H
      have c10b0 : decide (0 ≤ x20_1) = true := decide_eq_true c10
      clear c10
      by_cases c11 : x20_1 < (y256.length : Int)
      ·rw [if_pos c11] at H
       have c11b0 : decide (x20_1 < (y256.length : Int)) = true := decide_eq_true c11
       clear c11
       replace H := Option.bind_eq_some_iff.mp H
       obtain ⟨⟨t261, t262, t263, t264⟩, A120, H⟩ := H
       replace H : (if x7_1.length < 4398046511104 then (harm_Of.l0 k1 (x7_1 ++ [(⟨t261, t262, t263, t264⟩ : S37)]) y256 (y256.length : Int) (wrap64 (x20_1 + 1))) else (none)) = some r := H
       have A12 := Aside0.mk A120
       clear A120
       by_cases c13 : x7_1.length < 4398046511104
       ·rw [if_pos c13] at H
        have LMc13 := Aside0.mk c13
        clear c13
        obtain ⟨y265, hy265⟩ : ∃ y_ : List (S37), y_ = (x7_1 ++ [(⟨t261, t262, t263, t264⟩ : S37)]) := ⟨_, rfl⟩
        replace H : (harm_Of.l0 k1 y265 y256 (y256.length : Int) (wrap64 (x20_1 + 1))) = some r := by first | (rw [hy265]; with_reducible exact H) | (have H2_ := (Option.bind_some _ _).symm.trans H; rw [hy265]; with_reducible exact H2_) | (have H2_ := (Option.bind_some _ _).symm.trans H; with_reducible exact H2_) | with_reducible exact H | (rw [hy265]; exact H) | exact H
        have Ny265 := Aside0.mk hy265
        clear hy265
        have H' := Aside0.mk H
        clear H
        have p259 : 0 ≤ (x20_1 : Int) := of_decide_eq_true (by first | (with_reducible assumption) | assumption)
        have q259 : x20_1 < (y256.length : Int) := of_decide_eq_true (by first | (with_reducible assumption) | assumption)
        obtain ⟨ad259, e259, hx259_0, hx259_1, hx259_2, hx259_3, hx259_4, hx259_5, hx259_6, hx259_7, hx259_8, hx259_9, hx259_10, hx259_11, hx259_12, hx259_13, hx259_14⟩ := at_T39 (Kd.R_reads' HO_18.out).2.2 x20_1 p259 q259
        cases e259
        replace p259 := eq_true p259
        replace q259 := eq_true q259
        go_wp2_with (first | ((with_reducible refine gate_dst (N := 9) rfl ?_); refine box_event ?hg (N := 9) ?hd (cs := #[.int .i64 0, .int .i64 0, .int .i64 0, .int .i64 0, .int .i64 0, .int .i64 0, .int .i64 0, .int .i64 0, .int .i64 0, .int .i64 0, .int .i64 0, .int .i64 0, .int .i64 0, .int .i64 0, .int .i64 0]) (t := 39) ?hr ?_; (case hd => rfl); (case hg => rfl); (case hr => first | (go_simp; done) | (go_simp; rfl)); intro gb260 hg w14 hbox hb; have n0_ := Aside0.mk (Kd.R_below (by (with_reducible repeat (first | apply Kd.R_alloc | apply Kd.R_drewN | apply Kd.R_drew)); exact HO_7.out) hb); have n1_ := Aside0.mk (Kd.R_below (Kd.R_elderB (by (with_reducible repeat (first | apply Kd.R_alloc | apply Kd.R_drewN | apply Kd.R_drew)); exact HO_18.out) gb260 (Nat.le_of_eq hg.symm)) hb); have n2_ := Aside0.mk (below_step (by repeat (first | (with_reducible first | exact HB.out | apply below_alloc | apply pw_below_drewN | apply below_drew1) | exact HB.out)) hb); have n3_ := Aside0.mk (hbox); have n4_ := Aside0.mk ((by rw [hg]; exact (below_size (by repeat (first | (with_reducible first | exact HB.out | apply below_alloc | apply pw_below_drewN | apply below_drew1) | exact HB.out))) : w.heap.size ≤ gb260)); have n5_ := Aside0.mk ((by rw [hg]; exact (below_size (by repeat (first | (with_reducible first | exact HB.out | apply below_alloc | apply pw_below_drewN | apply below_drew1) | exact HB.out))) : w.heap.size ≤ gb260)); clear HO_7; clear HO_18; clear HB; have HO_7 := n0_; have HO_18 := n1_; have HB := n2_; have BK260 := n3_; have GW260 := n4_; have GE260 := n5_; clear n0_ n1_ n2_ n3_ n4_ n5_; clear hb hbox hg; have hcz15_0 : w14.cell? ⟨gb260, 0, none⟩ = some (.int .i64 0) := (blk_cell BK260.out 0).trans rfl; have hcz15_1 : w14.cell? ⟨gb260, 1, none⟩ = some (.int .i64 0) := (blk_cell BK260.out 1).trans rfl; have hcz15_2 : w14.cell? ⟨gb260, 2, none⟩ = some (.int .i64 0) := (blk_cell BK260.out 2).trans rfl; have hcz15_3 : w14.cell? ⟨gb260, 3, none⟩ = some (.int .i64 0) := (blk_cell BK260.out 3).trans rfl; have hcz15_4 : w14.cell? ⟨gb260, 4, none⟩ = some (.int .i64 0) := (blk_cell BK260.out 4).trans rfl; have hcz15_5 : w14.cell? ⟨gb260, 5, none⟩ = some (.int .i64 0) := (blk_cell BK260.out 5).trans rfl; have hcz15_6 : w14.cell? ⟨gb260, 6, none⟩ = some (.int .i64 0) := (blk_cell BK260.out 6).trans rfl; have hcz15_7 : w14.cell? ⟨gb260, 7, none⟩ = some (.int .i64 0) := (blk_cell BK260.out 7).trans rfl; have hcz15_8 : w14.cell? ⟨gb260, 8, none⟩ = some (.int .i64 0) := (blk_cell BK260.out 8).trans rfl; have hcz15_9 : w14.cell? ⟨gb260, 9, none⟩ = some (.int .i64 0) := (blk_cell BK260.out 9).trans rfl; have hcz15_10 : w14.cell? ⟨gb260, 10, none⟩ = some (.int .i64 0) := (blk_cell BK260.out 10).trans rfl; have hcz15_11 : w14.cell? ⟨gb260, 11, none⟩ = some (.int .i64 0) := (blk_cell BK260.out 11).trans rfl; have hcz15_12 : w14.cell? ⟨gb260, 12, none⟩ = some (.int .i64 0) := (blk_cell BK260.out 12).trans rfl; have hcz15_13 : w14.cell? ⟨gb260, 13, none⟩ = some (.int .i64 0) := (blk_cell BK260.out 13).trans rfl; have hcz15_14 : w14.cell? ⟨gb260, 14, none⟩ = some (.int .i64 0) := (blk_cell BK260.out 14).trans rfl; have hfz15_0 := blk_frozen BK260.out 0; have hfz15_1 := blk_frozen BK260.out 1; have hfz15_2 := blk_frozen BK260.out 2; have hfz15_3 := blk_frozen BK260.out 3; have hfz15_4 := blk_frozen BK260.out 4; have hfz15_5 := blk_frozen BK260.out 5; have hfz15_6 := blk_frozen BK260.out 6; have hfz15_7 := blk_frozen BK260.out 7; have hfz15_8 := blk_frozen BK260.out 8; have hfz15_9 := blk_frozen BK260.out 9; have hfz15_10 := blk_frozen BK260.out 10; have hfz15_11 := blk_frozen BK260.out 11; have hfz15_12 := blk_frozen BK260.out 12; have hfz15_13 := blk_frozen BK260.out 13; have hfz15_14 := blk_frozen BK260.out 14) | ((with_reducible refine gate_callee (f := 43) rfl ?_); refine goesL_ (some 26) rfl rfl Try.func43 (by kernel_rfl) rfl #[.agg #[.int .i64 ((rd_T39 y256 x20_1).f0), .int .i64 ((rd_T39 y256 x20_1).f1), .int .i64 ((rd_T39 y256 x20_1).f2.f0), .int .i64 ((rd_T39 y256 x20_1).f2.f1), .int .i64 ((rd_T39 y256 x20_1).f2.f2), .int .i64 ((rd_T39 y256 x20_1).f2.f3), .int .i64 ((rd_T39 y256 x20_1).f3.f0), .int .i64 ((rd_T39 y256 x20_1).f3.f1), .int .i64 ((rd_T39 y256 x20_1).f3.f2), .int .i64 ((rd_T39 y256 x20_1).f3.f3), .int .i64 ((rd_T39 y256 x20_1).f4.f0), .int .i64 ((rd_T39 y256 x20_1).f4.f1), .int .i64 ((rd_T39 y256 x20_1).f4.f2), .int .i64 ((rd_T39 y256 x20_1).f4.f3), .int .i64 ((rd_T39 y256 x20_1).f5)]] rfl (by (try simp only [List.map_toArray, List.map_cons, List.map_nil]); first | done | rfl | (simp only [List.length_drop, List.length_take]; rfl)) ?_; (with_reducible refine (owner_Seen.calls ((rd_T39 y256 x20_1).f0) ((rd_T39 y256 x20_1).f1) ((rd_T39 y256 x20_1).f2.f0) ((rd_T39 y256 x20_1).f2.f1) ((rd_T39 y256 x20_1).f2.f2) ((rd_T39 y256 x20_1).f2.f3) ((rd_T39 y256 x20_1).f3.f0) ((rd_T39 y256 x20_1).f3.f1) ((rd_T39 y256 x20_1).f3.f2) ((rd_T39 y256 x20_1).f3.f3) ((rd_T39 y256 x20_1).f4.f0) ((rd_T39 y256 x20_1).f4.f1) ((rd_T39 y256 x20_1).f4.f2) ((rd_T39 y256 x20_1).f4.f3) ((rd_T39 y256 x20_1).f5) t261 t262 t263 t264 _ A12.out).mono ?_); rintro e w16 ⟨rfl, hb⟩; refine ⟨_, rfl, ?_⟩; have n0_ := Aside0.mk (Kd.R_below (by (with_reducible repeat (first | apply Kd.R_alloc | apply Kd.R_drewN | apply Kd.R_drew)); exact (Kd.R_mono (Kd.R_far (p := ⟨gb260, 14, none⟩) (Kd.R_far (p := ⟨gb260, 13, none⟩) (Kd.R_far (p := ⟨gb260, 12, none⟩) (Kd.R_far (p := ⟨gb260, 11, none⟩) (Kd.R_far (p := ⟨gb260, 10, none⟩) (Kd.R_far (p := ⟨gb260, 9, none⟩) (Kd.R_far (p := ⟨gb260, 8, none⟩) (Kd.R_far (p := ⟨gb260, 7, none⟩) (Kd.R_far (p := ⟨gb260, 6, none⟩) (Kd.R_far (p := ⟨gb260, 5, none⟩) (Kd.R_far (p := ⟨gb260, 4, none⟩) (Kd.R_far (p := ⟨gb260, 3, none⟩) (Kd.R_far (p := ⟨gb260, 2, none⟩) (Kd.R_far (p := ⟨gb260, 1, none⟩) (Kd.R_far (p := ⟨gb260, 0, none⟩) (Kd.R_types HO_7.out BK260.out (by decide)) (fun _ hk => hk.2) (.int .i64 ((rd_T39 y256 x20_1).f0))) (fun _ hk => hk.2) (.int .i64 ((rd_T39 y256 x20_1).f1))) (fun _ hk => hk.2) (.int .i64 ((rd_T39 y256 x20_1).f2.f0))) (fun _ hk => hk.2) (.int .i64 ((rd_T39 y256 x20_1).f2.f1))) (fun _ hk => hk.2) (.int .i64 ((rd_T39 y256 x20_1).f2.f2))) (fun _ hk => hk.2) (.int .i64 ((rd_T39 y256 x20_1).f2.f3))) (fun _ hk => hk.2) (.int .i64 ((rd_T39 y256 x20_1).f3.f0))) (fun _ hk => hk.2) (.int .i64 ((rd_T39 y256 x20_1).f3.f1))) (fun _ hk => hk.2) (.int .i64 ((rd_T39 y256 x20_1).f3.f2))) (fun _ hk => hk.2) (.int .i64 ((rd_T39 y256 x20_1).f3.f3))) (fun _ hk => hk.2) (.int .i64 ((rd_T39 y256 x20_1).f4.f0))) (fun _ hk => hk.2) (.int .i64 ((rd_T39 y256 x20_1).f4.f1))) (fun _ hk => hk.2) (.int .i64 ((rd_T39 y256 x20_1).f4.f2))) (fun _ hk => hk.2) (.int .i64 ((rd_T39 y256 x20_1).f4.f3))) (fun _ hk => hk.2) (.int .i64 ((rd_T39 y256 x20_1).f5))) (fun _ h_ => h_.1))) hb); have n1_ := Aside0.mk (Kd.R_below (by (with_reducible repeat (first | apply Kd.R_alloc | apply Kd.R_drewN | apply Kd.R_drew)); exact (Kd.R_mono (Kd.R_far (p := ⟨gb260, 14, none⟩) (Kd.R_far (p := ⟨gb260, 13, none⟩) (Kd.R_far (p := ⟨gb260, 12, none⟩) (Kd.R_far (p := ⟨gb260, 11, none⟩) (Kd.R_far (p := ⟨gb260, 10, none⟩) (Kd.R_far (p := ⟨gb260, 9, none⟩) (Kd.R_far (p := ⟨gb260, 8, none⟩) (Kd.R_far (p := ⟨gb260, 7, none⟩) (Kd.R_far (p := ⟨gb260, 6, none⟩) (Kd.R_far (p := ⟨gb260, 5, none⟩) (Kd.R_far (p := ⟨gb260, 4, none⟩) (Kd.R_far (p := ⟨gb260, 3, none⟩) (Kd.R_far (p := ⟨gb260, 2, none⟩) (Kd.R_far (p := ⟨gb260, 1, none⟩) (Kd.R_far (p := ⟨gb260, 0, none⟩) (Kd.R_mono HO_18.out (fun k_ hk => (⟨hk, hk.2⟩ : _ ∧ k_ ≠ gb260))) (fun _ hk => hk.2) (.int .i64 ((rd_T39 y256 x20_1).f0))) (fun _ hk => hk.2) (.int .i64 ((rd_T39 y256 x20_1).f1))) (fun _ hk => hk.2) (.int .i64 ((rd_T39 y256 x20_1).f2.f0))) (fun _ hk => hk.2) (.int .i64 ((rd_T39 y256 x20_1).f2.f1))) (fun _ hk => hk.2) (.int .i64 ((rd_T39 y256 x20_1).f2.f2))) (fun _ hk => hk.2) (.int .i64 ((rd_T39 y256 x20_1).f2.f3))) (fun _ hk => hk.2) (.int .i64 ((rd_T39 y256 x20_1).f3.f0))) (fun _ hk => hk.2) (.int .i64 ((rd_T39 y256 x20_1).f3.f1))) (fun _ hk => hk.2) (.int .i64 ((rd_T39 y256 x20_1).f3.f2))) (fun _ hk => hk.2) (.int .i64 ((rd_T39 y256 x20_1).f3.f3))) (fun _ hk => hk.2) (.int .i64 ((rd_T39 y256 x20_1).f4.f0))) (fun _ hk => hk.2) (.int .i64 ((rd_T39 y256 x20_1).f4.f1))) (fun _ hk => hk.2) (.int .i64 ((rd_T39 y256 x20_1).f4.f2))) (fun _ hk => hk.2) (.int .i64 ((rd_T39 y256 x20_1).f4.f3))) (fun _ hk => hk.2) (.int .i64 ((rd_T39 y256 x20_1).f5))) (fun _ h_ => h_.1))) hb); have n2_ := Aside0.mk (blk_below (g := gb260) (o := .cells #[.int .i64 ((rd_T39 y256 x20_1).f0), .int .i64 ((rd_T39 y256 x20_1).f1), .int .i64 ((rd_T39 y256 x20_1).f2.f0), .int .i64 ((rd_T39 y256 x20_1).f2.f1), .int .i64 ((rd_T39 y256 x20_1).f2.f2), .int .i64 ((rd_T39 y256 x20_1).f2.f3), .int .i64 ((rd_T39 y256 x20_1).f3.f0), .int .i64 ((rd_T39 y256 x20_1).f3.f1), .int .i64 ((rd_T39 y256 x20_1).f3.f2), .int .i64 ((rd_T39 y256 x20_1).f3.f3), .int .i64 ((rd_T39 y256 x20_1).f4.f0), .int .i64 ((rd_T39 y256 x20_1).f4.f1), .int .i64 ((rd_T39 y256 x20_1).f4.f2), .int .i64 ((rd_T39 y256 x20_1).f4.f3), .int .i64 ((rd_T39 y256 x20_1).f5)] 39 (0, 0)) (by (with_reducible repeat (first | refine blk_drewN ?_ _ | refine blk_drew ?_ | refine blk_alloc ?_ _)); refine blk_put (cs := #[.int .i64 ((rd_T39 y256 x20_1).f0), .int .i64 ((rd_T39 y256 x20_1).f1), .int .i64 ((rd_T39 y256 x20_1).f2.f0), .int .i64 ((rd_T39 y256 x20_1).f2.f1), .int .i64 ((rd_T39 y256 x20_1).f2.f2), .int .i64 ((rd_T39 y256 x20_1).f2.f3), .int .i64 ((rd_T39 y256 x20_1).f3.f0), .int .i64 ((rd_T39 y256 x20_1).f3.f1), .int .i64 ((rd_T39 y256 x20_1).f3.f2), .int .i64 ((rd_T39 y256 x20_1).f3.f3), .int .i64 ((rd_T39 y256 x20_1).f4.f0), .int .i64 ((rd_T39 y256 x20_1).f4.f1), .int .i64 ((rd_T39 y256 x20_1).f4.f2), .int .i64 ((rd_T39 y256 x20_1).f4.f3), .int .i64 0]) ?_ 14 _ rfl; (with_reducible repeat (first | refine blk_drewN ?_ _ | refine blk_drew ?_ | refine blk_alloc ?_ _)); refine blk_put (cs := #[.int .i64 ((rd_T39 y256 x20_1).f0), .int .i64 ((rd_T39 y256 x20_1).f1), .int .i64 ((rd_T39 y256 x20_1).f2.f0), .int .i64 ((rd_T39 y256 x20_1).f2.f1), .int .i64 ((rd_T39 y256 x20_1).f2.f2), .int .i64 ((rd_T39 y256 x20_1).f2.f3), .int .i64 ((rd_T39 y256 x20_1).f3.f0), .int .i64 ((rd_T39 y256 x20_1).f3.f1), .int .i64 ((rd_T39 y256 x20_1).f3.f2), .int .i64 ((rd_T39 y256 x20_1).f3.f3), .int .i64 ((rd_T39 y256 x20_1).f4.f0), .int .i64 ((rd_T39 y256 x20_1).f4.f1), .int .i64 ((rd_T39 y256 x20_1).f4.f2), .int .i64 0, .int .i64 0]) ?_ 13 _ rfl; (with_reducible repeat (first | refine blk_drewN ?_ _ | refine blk_drew ?_ | refine blk_alloc ?_ _)); refine blk_put (cs := #[.int .i64 ((rd_T39 y256 x20_1).f0), .int .i64 ((rd_T39 y256 x20_1).f1), .int .i64 ((rd_T39 y256 x20_1).f2.f0), .int .i64 ((rd_T39 y256 x20_1).f2.f1), .int .i64 ((rd_T39 y256 x20_1).f2.f2), .int .i64 ((rd_T39 y256 x20_1).f2.f3), .int .i64 ((rd_T39 y256 x20_1).f3.f0), .int .i64 ((rd_T39 y256 x20_1).f3.f1), .int .i64 ((rd_T39 y256 x20_1).f3.f2), .int .i64 ((rd_T39 y256 x20_1).f3.f3), .int .i64 ((rd_T39 y256 x20_1).f4.f0), .int .i64 ((rd_T39 y256 x20_1).f4.f1), .int .i64 0, .int .i64 0, .int .i64 0]) ?_ 12 _ rfl; (with_reducible repeat (first | refine blk_drewN ?_ _ | refine blk_drew ?_ | refine blk_alloc ?_ _)); refine blk_put (cs := #[.int .i64 ((rd_T39 y256 x20_1).f0), .int .i64 ((rd_T39 y256 x20_1).f1), .int .i64 ((rd_T39 y256 x20_1).f2.f0), .int .i64 ((rd_T39 y256 x20_1).f2.f1), .int .i64 ((rd_T39 y256 x20_1).f2.f2), .int .i64 ((rd_T39 y256 x20_1).f2.f3), .int .i64 ((rd_T39 y256 x20_1).f3.f0), .int .i64 ((rd_T39 y256 x20_1).f3.f1), .int .i64 ((rd_T39 y256 x20_1).f3.f2), .int .i64 ((rd_T39 y256 x20_1).f3.f3), .int .i64 ((rd_T39 y256 x20_1).f4.f0), .int .i64 0, .int .i64 0, .int .i64 0, .int .i64 0]) ?_ 11 _ rfl; (with_reducible repeat (first | refine blk_drewN ?_ _ | refine blk_drew ?_ | refine blk_alloc ?_ _)); refine blk_put (cs := #[.int .i64 ((rd_T39 y256 x20_1).f0), .int .i64 ((rd_T39 y256 x20_1).f1), .int .i64 ((rd_T39 y256 x20_1).f2.f0), .int .i64 ((rd_T39 y256 x20_1).f2.f1), .int .i64 ((rd_T39 y256 x20_1).f2.f2), .int .i64 ((rd_T39 y256 x20_1).f2.f3), .int .i64 ((rd_T39 y256 x20_1).f3.f0), .int .i64 ((rd_T39 y256 x20_1).f3.f1), .int .i64 ((rd_T39 y256 x20_1).f3.f2), .int .i64 ((rd_T39 y256 x20_1).f3.f3), .int .i64 0, .int .i64 0, .int .i64 0, .int .i64 0, .int .i64 0]) ?_ 10 _ rfl; (with_reducible repeat (first | refine blk_drewN ?_ _ | refine blk_drew ?_ | refine blk_alloc ?_ _)); refine blk_put (cs := #[.int .i64 ((rd_T39 y256 x20_1).f0), .int .i64 ((rd_T39 y256 x20_1).f1), .int .i64 ((rd_T39 y256 x20_1).f2.f0), .int .i64 ((rd_T39 y256 x20_1).f2.f1), .int .i64 ((rd_T39 y256 x20_1).f2.f2), .int .i64 ((rd_T39 y256 x20_1).f2.f3), .int .i64 ((rd_T39 y256 x20_1).f3.f0), .int .i64 ((rd_T39 y256 x20_1).f3.f1), .int .i64 ((rd_T39 y256 x20_1).f3.f2), .int .i64 0, .int .i64 0, .int .i64 0, .int .i64 0, .int .i64 0, .int .i64 0]) ?_ 9 _ rfl; (with_reducible repeat (first | refine blk_drewN ?_ _ | refine blk_drew ?_ | refine blk_alloc ?_ _)); refine blk_put (cs := #[.int .i64 ((rd_T39 y256 x20_1).f0), .int .i64 ((rd_T39 y256 x20_1).f1), .int .i64 ((rd_T39 y256 x20_1).f2.f0), .int .i64 ((rd_T39 y256 x20_1).f2.f1), .int .i64 ((rd_T39 y256 x20_1).f2.f2), .int .i64 ((rd_T39 y256 x20_1).f2.f3), .int .i64 ((rd_T39 y256 x20_1).f3.f0), .int .i64 ((rd_T39 y256 x20_1).f3.f1), .int .i64 0, .int .i64 0, .int .i64 0, .int .i64 0, .int .i64 0, .int .i64 0, .int .i64 0]) ?_ 8 _ rfl; (with_reducible repeat (first | refine blk_drewN ?_ _ | refine blk_drew ?_ | refine blk_alloc ?_ _)); refine blk_put (cs := #[.int .i64 ((rd_T39 y256 x20_1).f0), .int .i64 ((rd_T39 y256 x20_1).f1), .int .i64 ((rd_T39 y256 x20_1).f2.f0), .int .i64 ((rd_T39 y256 x20_1).f2.f1), .int .i64 ((rd_T39 y256 x20_1).f2.f2), .int .i64 ((rd_T39 y256 x20_1).f2.f3), .int .i64 ((rd_T39 y256 x20_1).f3.f0), .int .i64 0, .int .i64 0, .int .i64 0, .int .i64 0, .int .i64 0, .int .i64 0, .int .i64 0, .int .i64 0]) ?_ 7 _ rfl; (with_reducible repeat (first | refine blk_drewN ?_ _ | refine blk_drew ?_ | refine blk_alloc ?_ _)); refine blk_put (cs := #[.int .i64 ((rd_T39 y256 x20_1).f0), .int .i64 ((rd_T39 y256 x20_1).f1), .int .i64 ((rd_T39 y256 x20_1).f2.f0), .int .i64 ((rd_T39 y256 x20_1).f2.f1), .int .i64 ((rd_T39 y256 x20_1).f2.f2), .int .i64 ((rd_T39 y256 x20_1).f2.f3), .int .i64 0, .int .i64 0, .int .i64 0, .int .i64 0, .int .i64 0, .int .i64 0, .int .i64 0, .int .i64 0, .int .i64 0]) ?_ 6 _ rfl; (with_reducible repeat (first | refine blk_drewN ?_ _ | refine blk_drew ?_ | refine blk_alloc ?_ _)); refine blk_put (cs := #[.int .i64 ((rd_T39 y256 x20_1).f0), .int .i64 ((rd_T39 y256 x20_1).f1), .int .i64 ((rd_T39 y256 x20_1).f2.f0), .int .i64 ((rd_T39 y256 x20_1).f2.f1), .int .i64 ((rd_T39 y256 x20_1).f2.f2), .int .i64 0, .int .i64 0, .int .i64 0, .int .i64 0, .int .i64 0, .int .i64 0, .int .i64 0, .int .i64 0, .int .i64 0, .int .i64 0]) ?_ 5 _ rfl; (with_reducible repeat (first | refine blk_drewN ?_ _ | refine blk_drew ?_ | refine blk_alloc ?_ _)); refine blk_put (cs := #[.int .i64 ((rd_T39 y256 x20_1).f0), .int .i64 ((rd_T39 y256 x20_1).f1), .int .i64 ((rd_T39 y256 x20_1).f2.f0), .int .i64 ((rd_T39 y256 x20_1).f2.f1), .int .i64 0, .int .i64 0, .int .i64 0, .int .i64 0, .int .i64 0, .int .i64 0, .int .i64 0, .int .i64 0, .int .i64 0, .int .i64 0, .int .i64 0]) ?_ 4 _ rfl; (with_reducible repeat (first | refine blk_drewN ?_ _ | refine blk_drew ?_ | refine blk_alloc ?_ _)); refine blk_put (cs := #[.int .i64 ((rd_T39 y256 x20_1).f0), .int .i64 ((rd_T39 y256 x20_1).f1), .int .i64 ((rd_T39 y256 x20_1).f2.f0), .int .i64 0, .int .i64 0, .int .i64 0, .int .i64 0, .int .i64 0, .int .i64 0, .int .i64 0, .int .i64 0, .int .i64 0, .int .i64 0, .int .i64 0, .int .i64 0]) ?_ 3 _ rfl; (with_reducible repeat (first | refine blk_drewN ?_ _ | refine blk_drew ?_ | refine blk_alloc ?_ _)); refine blk_put (cs := #[.int .i64 ((rd_T39 y256 x20_1).f0), .int .i64 ((rd_T39 y256 x20_1).f1), .int .i64 0, .int .i64 0, .int .i64 0, .int .i64 0, .int .i64 0, .int .i64 0, .int .i64 0, .int .i64 0, .int .i64 0, .int .i64 0, .int .i64 0, .int .i64 0, .int .i64 0]) ?_ 2 _ rfl; (with_reducible repeat (first | refine blk_drewN ?_ _ | refine blk_drew ?_ | refine blk_alloc ?_ _)); refine blk_put (cs := #[.int .i64 ((rd_T39 y256 x20_1).f0), .int .i64 0, .int .i64 0, .int .i64 0, .int .i64 0, .int .i64 0, .int .i64 0, .int .i64 0, .int .i64 0, .int .i64 0, .int .i64 0, .int .i64 0, .int .i64 0, .int .i64 0, .int .i64 0]) ?_ 1 _ rfl; (with_reducible repeat (first | refine blk_drewN ?_ _ | refine blk_drew ?_ | refine blk_alloc ?_ _)); refine blk_put (cs := #[.int .i64 0, .int .i64 0, .int .i64 0, .int .i64 0, .int .i64 0, .int .i64 0, .int .i64 0, .int .i64 0, .int .i64 0, .int .i64 0, .int .i64 0, .int .i64 0, .int .i64 0, .int .i64 0, .int .i64 0]) ?_ 0 _ rfl; (with_reducible repeat (first | refine blk_drewN ?_ _ | refine blk_drew ?_ | refine blk_alloc ?_ _)); exact BK260.out) hb); have n3_ := Aside0.mk (below_step (by repeat (first | (with_reducible first | exact HB.out | apply below_alloc | apply pw_below_drewN | apply below_drew1 | refine below_set ?_ GE260.out) | exact HB.out)) hb); clear HO_7; clear HO_18; clear BK260; clear HB; have HO_7 := n0_; have HO_18 := n1_; have BK260 := n2_; have HB := n3_; clear n0_ n1_ n2_ n3_; (try clear hb); (try clear hb2); (try clear hk); (try clear hi)) | ((with_reducible refine gate_builtin (b := .append) (xs := #[.tmp 24, .tmp 27]) rfl ?_); at_builtin; refine Kd.R_append k37 (w0 := w) w.heap.size rfl (.tmp 24) (.tmp 27) 29 37 (.agg #[(.int .i64 0), (.int .i64 0), (.int .i64 0), (.int .i64 0)]) 32 rfl Try.underlying29 info37 rfl (by decide) (by omega) u7 x7_1 (⟨t261, t262, t263, t264⟩ : S37) [.int .i64 t261, .int .i64 t262, .int .i64 t263, .int .i64 t264] (fun _ => True) (fun _ => False) rfl rfl ?aP (fun _ hk => hk.elim) ?aF ?aO ?aB ?aS ?aL ?_; (case aP => exact k37_mkM _ _ _ (⟨t261, t262, t263, t264⟩ : S37)); (case aB => exact (by repeat (first | (with_reducible first | exact HB.out | apply below_alloc | apply pw_below_drewN | apply below_drew1 | refine below_set ?_ GE260.out) | exact HB.out))); (case aF => exact (fun _ _ => trivial)); (case aO => exact (by (with_reducible repeat (first | apply Kd.R_alloc | apply Kd.R_drewN | apply Kd.R_drew)); exact HO_7.out)); (case aS => exact (below_size (by repeat (first | (with_reducible first | exact HB.out | apply below_alloc | apply pw_below_drewN | apply below_drew1 | refine below_set ?_ GE260.out) | exact HB.out)))); (case aL => have := LMc13.out; omega); intro v266 w17 ho hb hg hat; rw [← Ny265.out] at ho; have n0_ := Aside0.mk (Kd.R_over' (by (with_reducible repeat (first | apply Kd.R_alloc | apply Kd.R_drewN | apply Kd.R_drew)); exact HO_18.out) (Kd.R_typed (by (with_reducible repeat (first | apply Kd.R_alloc | apply Kd.R_drewN | apply Kd.R_drew)); exact HO_7.out)) (by decide) hg); have n1_ := Aside0.mk (blk_grown (g := gb260) (o := .cells #[.int .i64 ((rd_T39 y256 x20_1).f0), .int .i64 ((rd_T39 y256 x20_1).f1), .int .i64 ((rd_T39 y256 x20_1).f2.f0), .int .i64 ((rd_T39 y256 x20_1).f2.f1), .int .i64 ((rd_T39 y256 x20_1).f2.f2), .int .i64 ((rd_T39 y256 x20_1).f2.f3), .int .i64 ((rd_T39 y256 x20_1).f3.f0), .int .i64 ((rd_T39 y256 x20_1).f3.f1), .int .i64 ((rd_T39 y256 x20_1).f3.f2), .int .i64 ((rd_T39 y256 x20_1).f3.f3), .int .i64 ((rd_T39 y256 x20_1).f4.f0), .int .i64 ((rd_T39 y256 x20_1).f4.f1), .int .i64 ((rd_T39 y256 x20_1).f4.f2), .int .i64 ((rd_T39 y256 x20_1).f4.f3), .int .i64 ((rd_T39 y256 x20_1).f5)] 39 (0, 0)) (by (with_reducible repeat (first | refine blk_drewN ?_ _ | refine blk_drew ?_ | refine blk_alloc ?_ _)); exact BK260.out) hg (Kd.R_ne HO_7.out BK260.out (by decide))); have n2_ := Aside0.mk (hb); have n3_ := Aside0.mk (ho); clear HO_18; clear BK260; clear HB; clear HO_7; have HO_18 := n0_; have BK260 := n1_; have HB := n2_; have HO267 := n3_; clear n0_ n1_ n2_ n3_; clear ho hb hg hat))
        go_roundg k1
        case measure => have := HK1.out; omega
        case rel => exact ⟨(y265), (wrap64 (x20_1 + 1)), (by first | rfl | (simp; done) | (simp [*]; done)), H', ⟨by have := HK1.out; omega⟩, ⟨by (with_reducible repeat (first | apply Kd.R_alloc | apply Kd.R_drewN | apply Kd.R_drew)); exact HO267.out⟩, ⟨by (with_reducible repeat (first | apply Kd.R_alloc | apply Kd.R_drewN | apply Kd.R_drew)); exact Kd.R_mono HO_18.out (fun _ hk => trivial)⟩, ⟨by repeat (first | (with_reducible first | exact HB.out | apply below_alloc | apply pw_below_drewN | apply below_drew1 | refine below_set ?_ GE260.out) | exact HB.out)⟩⟩
       ·rw [if_neg c13] at H
        exact absurd H (by simp)
      ·rw [if_neg c11] at H
       exact absurd H (by simp)
     ·rw [if_neg c10] at H
      exact absurd H (by simp)
    ·rw [if_neg c9] at H
     have c9b0 : decide (x20_1 < (y256.length : Int)) = false := decide_eq_false c9
     clear c9
     replace H := Option.bind_eq_some_iff.mp H
     obtain ⟨t268, A180, H⟩ := H
     replace H : (some t268) = some r := H
     have A18 := Aside0.mk A180
     clear A180
     obtain rfl := Option.some.inj H
     obtain ⟨Ao19, co19, eo19⟩ := Kd.R_slice HO_7.out
     subst eo19
     go_wp2_with (first | ((with_reducible refine gate_callee (f := 44) rfl ?_); refine goesL_ (some 31) rfl rfl Try.func44 (by kernel_rfl) rfl #[.slice Ao19 x7_1.length co19] rfl (by (try simp only [List.map_toArray, List.map_cons, List.map_nil]); first | done | rfl | (simp only [List.length_drop, List.length_take]; rfl)) ?_; (with_reducible refine (cover_Join.calls k1 _ _ x7_1 t268 _ ?side1 ?side2 A18.out).mono ?_); (case side1 => repeat (first | exact (Kd.R_reads' HO_7.out).2.2 | (with_reducible refine Kd.C_alloc ?_ _) | (with_reducible refine Kd.C_drewN ?_ _) | (with_reducible refine Kd.C_drew ?_))); (case side2 => exact (Kd.R_reads' HO_7.out).2.1); rintro e w20 ⟨v269, rfl, ho0, hb⟩; refine ⟨_, rfl, ?_⟩; have n0_ := Aside0.mk (Kd.R_elder' (by (with_reducible repeat (first | apply Kd.R_alloc | apply Kd.R_drewN | apply Kd.R_drew)); exact HO_7.out) (Kd.R_base ho0) hb); have n1_ := Aside0.mk (Kd.R_below (by (with_reducible repeat (first | apply Kd.R_alloc | apply Kd.R_drewN | apply Kd.R_drew)); exact HO_18.out) hb); have n2_ := Aside0.mk (Kd.R_lower (Kd.R_new' ho0 (Kd.R_lt (by (with_reducible repeat (first | apply Kd.R_alloc | apply Kd.R_drewN | apply Kd.R_drew)); exact HO_7.out))) (below_size (by repeat (first | (with_reducible first | exact HB.out | apply below_alloc | apply pw_below_drewN | apply below_drew1) | exact HB.out)))); have n3_ := Aside0.mk (below_step (by repeat (first | (with_reducible first | exact HB.out | apply below_alloc | apply pw_below_drewN | apply below_drew1) | exact HB.out)) hb); clear HO_7; clear HO_18; clear HB; have HO_7 := n0_; have HO_18 := n1_; have HO270 := n2_; have HB := n3_; clear n0_ n1_ n2_ n3_; (try clear hb); (try clear hb2); (try clear hk); (try clear hi); (try clear ho0)))
     go_ret
     exact ⟨_, by first | rfl | (simp [errW_none, errW_some] <;> rfl) | (simp [*, errW_none, errW_some] <;> rfl), by (with_reducible repeat (first | apply Kd.R_alloc | apply Kd.R_drewN | apply Kd.R_drew)); exact Kd.R_mono HO270.out (fun _ hk => trivial), by repeat (first | (with_reducible first | exact HB.out | apply below_alloc | apply pw_below_drewN | apply below_drew1) | exact HB.out)⟩
 ·rw [if_neg c4] at H
  exact absurd H (by simp)

end Go.Proofs.Ytppklhfiajjhmaa.PPU
