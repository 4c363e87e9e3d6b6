-- written by a program of this session (a turned copy of the print)
import Derived.Test.YtppklhfiajjhmaaPRasterDrawsx0
import Derived.Test.YtppklhfiajjhmaaPRasterDrawsx3
namespace Go.Proofs.Ytppklhfiajjhmaa.PRasterDraws
open Go.RowKit Go.Proofs.YtppklhfiajjhmaaW.PrintWords Go.Proofs.YtppklhfiajjhmaaW.PrintLast Go.Proofs.YtppklhfiajjhmaaW.PrintMore
attribute [local go_sem] max2_int min2_int max_two min_two max_three min_three max_four min_four   -- for this text's walks alone
set_option linter.unusedVariables false
set_option linter.unusedSimpArgs false

/-! ### decoupageref26_Shows: function 48 -/
def decoupageref26_Shows.f (a0_0 : Int) (a0_1 : Int) (a0_2 : Int) (a0_3 : Int) (a0_4 : Int) (a0_5 : Int) (a0_6 : Int) (a0_7 : Int) (a0_8 : Int) (a0_9 : Int) (a0_10 : Int) (a0_11 : Int) (a0_12 : Int) (a0_13 : Int) (a0_14 : Int) (a1 : Int) (a2 : Int) : Option (Bool) := if a0_1 = 1 then ((decoupageref02_Holds.f a0_6 a0_7 a0_8 a0_9 a1 a2).bind fun t165 => ((decoupageref02_Holds.f a0_2 a0_3 a0_4 a0_5 a1 a2).bind fun t166 => (if t166 = true then ((decoupageref02_Holds.f a0_10 a0_11 a0_12 a0_13 a1 a2).bind fun t167 => (if t167 = true then (some (!t165)) else (some false))) else (some false)))) else ((decoupageref02_Holds.f a0_2 a0_3 a0_4 a0_5 a1 a2).bind fun t168 => (if t168 = true then ((decoupageref02_Holds.f a0_10 a0_11 a0_12 a0_13 a1 a2).bind fun t169 => (if t169 = true then (some (!false)) else (some false))) else (some false)))
set_option maxHeartbeats 8000000 in
set_option maxRecDepth 100000 in
theorem decoupageref26_Shows.calls (a0_0 : Int) (a0_1 : Int) (a0_2 : Int) (a0_3 : Int) (a0_4 : Int) (a0_5 : Int) (a0_6 : Int) (a0_7 : Int) (a0_8 : Int) (a0_9 : Int) (a0_10 : Int) (a0_11 : Int) (a0_12 : Int) (a0_13 : Int) (a0_14 : Int) (a1 : Int) (a2 : Int) (r : Bool) (w : World) (h : decoupageref26_Shows.f a0_0 a0_1 a0_2 a0_3 a0_4 a0_5 a0_6 a0_7 a0_8 a0_9 a0_10 a0_11 a0_12 a0_13 a0_14 a1 a2 = some r) :
    Calls Try.prog 48 #[.agg #[.int .i64 a0_0, .int .i64 a0_1, .int .i64 a0_2, .int .i64 a0_3, .int .i64 a0_4, .int .i64 a0_5, .int .i64 a0_6, .int .i64 a0_7, .int .i64 a0_8, .int .i64 a0_9, .int .i64 a0_10, .int .i64 a0_11, .int .i64 a0_12, .int .i64 a0_13, .int .i64 a0_14], .int .i64 a1, .int .i64 a2] w fun e w' => e = .returned (.bool r) ∧ Below w.heap.size w w' := by
  have hu39 := Try.underlying39
  have hu37 := Try.underlying37
  have HB := Aside0.mk (Below.refl w.heap.size w)
  have H : (if a0_1 = 1 then ((decoupageref02_Holds.f a0_6 a0_7 a0_8 a0_9 a1 a2).bind fun t165 => ((decoupageref02_Holds.f a0_2 a0_3 a0_4 a0_5 a1 a2).bind fun t166 => (if t166 = true then ((decoupageref02_Holds.f a0_10 a0_11 a0_12 a0_13 a1 a2).bind fun t167 => (if t167 = true then (some (!t165)) else (some false))) else (some false)))) else ((decoupageref02_Holds.f a0_2 a0_3 a0_4 a0_5 a1 a2).bind fun t168 => (if t168 = true then ((decoupageref02_Holds.f a0_10 a0_11 a0_12 a0_13 a1 a2).bind fun t169 => (if t169 = true then (some (!false)) else (some false))) else (some false)))) = some r := h
  clear h
  by_cases c4 : a0_1 = 1
  · rw [if_pos c4] at H
    have c4b0 : (a0_1 == 1) = true := beq_iff_eq.mpr c4
    have c4b1 : (a0_1 != 1) = false := bne_eq_false_iff_eq.mpr c4
    clear c4
    replace H := Option.bind_eq_some_iff.mp H
    obtain ⟨t165, A50, H⟩ := H
    replace H : ((decoupageref02_Holds.f a0_2 a0_3 a0_4 a0_5 a1 a2).bind fun t166 => (if t166 = true then ((decoupageref02_Holds.f a0_10 a0_11 a0_12 a0_13 a1 a2).bind fun t167 => (if t167 = true then (some (!t165)) else (some false))) else (some false))) = some r := H
    have A5 := Aside0.mk A50
    clear A50
    replace H := Option.bind_eq_some_iff.mp H
    obtain ⟨t166, A60, H⟩ := H
    replace H : (if t166 = true then ((decoupageref02_Holds.f a0_10 a0_11 a0_12 a0_13 a1 a2).bind fun t167 => (if t167 = true then (some (!t165)) else (some false))) else (some false)) = some r := H
    have A6 := Aside0.mk A60
    clear A60
    by_cases c7 : t166 = true
    · subst c7
      have H1 : ((decoupageref02_Holds.f a0_10 a0_11 a0_12 a0_13 a1 a2).bind fun t167 => (if t167 = true then (some (!t165)) else (some false))) = some r := by rw [if_pos rfl] at H; exact H
      clear H
      have H := H1
      clear H1
      replace H := Option.bind_eq_some_iff.mp H
      obtain ⟨t167, A80, H⟩ := H
      replace H : (if t167 = true then (some (!t165)) else (some false)) = some r := H
      have A8 := Aside0.mk A80
      clear A80
      by_cases c9 : t167 = true
      · subst c9
        have H1 : (some (!t165)) = some r := by rw [if_pos rfl] at H; exact H
        clear H
        have H := H1
        clear H1
        obtain rfl := Option.some.inj H
        go_enter Try.func48, Try.ntmps48
        go_wp2_with (first | ((with_reducible refine gate_dst (N := 3) rfl ?_); refine box_event ?hg (N := 3) ?hd (cs := #[.int .i64 a0_0, .int .i64 a0_1, .int .i64 a0_2, .int .i64 a0_3, .int .i64 a0_4, .int .i64 a0_5, .int .i64 a0_6, .int .i64 a0_7, .int .i64 a0_8, .int .i64 a0_9, .int .i64 a0_10, .int .i64 a0_11, .int .i64 a0_12, .int .i64 a0_13, .int .i64 a0_14]) (t := 39) ?hr ?_; (case hd => rfl); (case hg => rfl); (case hr => first | (go_simp; done) | (go_simp; rfl)); intro gb164 hg w10 hbox hb; have n0_ := Aside0.mk (below_step (by repeat (first | (with_reducible first | exact HB.out | apply below_alloc | apply pw_below_drewN | apply below_drew1) | exact HB.out)) hb); have n1_ := Aside0.mk (hbox); have n2_ := Aside0.mk ((by rw [hg]; exact (below_size (by repeat (first | (with_reducible first | exact HB.out | apply below_alloc | apply pw_below_drewN | apply below_drew1) | exact HB.out))) : w.heap.size ≤ gb164)); have n3_ := Aside0.mk ((by rw [hg]; exact (below_size (by repeat (first | (with_reducible first | exact HB.out | apply below_alloc | apply pw_below_drewN | apply below_drew1) | exact HB.out))) : w.heap.size ≤ gb164)); clear HB; have HB := n0_; have BK164 := n1_; have GW164 := n2_; have GE164 := n3_; clear n0_ n1_ n2_ n3_; clear hb hbox hg; have hcz11_0 : w10.cell? ⟨gb164, 0, none⟩ = some (.int .i64 a0_0) := (blk_cell BK164.out 0).trans rfl; have hcz11_1 : w10.cell? ⟨gb164, 1, none⟩ = some (.int .i64 a0_1) := (blk_cell BK164.out 1).trans rfl; have hcz11_2 : w10.cell? ⟨gb164, 2, none⟩ = some (.int .i64 a0_2) := (blk_cell BK164.out 2).trans rfl; have hcz11_3 : w10.cell? ⟨gb164, 3, none⟩ = some (.int .i64 a0_3) := (blk_cell BK164.out 3).trans rfl; have hcz11_4 : w10.cell? ⟨gb164, 4, none⟩ = some (.int .i64 a0_4) := (blk_cell BK164.out 4).trans rfl; have hcz11_5 : w10.cell? ⟨gb164, 5, none⟩ = some (.int .i64 a0_5) := (blk_cell BK164.out 5).trans rfl; have hcz11_6 : w10.cell? ⟨gb164, 6, none⟩ = some (.int .i64 a0_6) := (blk_cell BK164.out 6).trans rfl; have hcz11_7 : w10.cell? ⟨gb164, 7, none⟩ = some (.int .i64 a0_7) := (blk_cell BK164.out 7).trans rfl; have hcz11_8 : w10.cell? ⟨gb164, 8, none⟩ = some (.int .i64 a0_8) := (blk_cell BK164.out 8).trans rfl; have hcz11_9 : w10.cell? ⟨gb164, 9, none⟩ = some (.int .i64 a0_9) := (blk_cell BK164.out 9).trans rfl; have hcz11_10 : w10.cell? ⟨gb164, 10, none⟩ = some (.int .i64 a0_10) := (blk_cell BK164.out 10).trans rfl; have hcz11_11 : w10.cell? ⟨gb164, 11, none⟩ = some (.int .i64 a0_11) := (blk_cell BK164.out 11).trans rfl; have hcz11_12 : w10.cell? ⟨gb164, 12, none⟩ = some (.int .i64 a0_12) := (blk_cell BK164.out 12).trans rfl; have hcz11_13 : w10.cell? ⟨gb164, 13, none⟩ = some (.int .i64 a0_13) := (blk_cell BK164.out 13).trans rfl; have hcz11_14 : w10.cell? ⟨gb164, 14, none⟩ = some (.int .i64 a0_14) := (blk_cell BK164.out 14).trans rfl; have hfz11_0 := blk_frozen BK164.out 0; have hfz11_1 := blk_frozen BK164.out 1; have hfz11_2 := blk_frozen BK164.out 2; have hfz11_3 := blk_frozen BK164.out 3; have hfz11_4 := blk_frozen BK164.out 4; have hfz11_5 := blk_frozen BK164.out 5; have hfz11_6 := blk_frozen BK164.out 6; have hfz11_7 := blk_frozen BK164.out 7; have hfz11_8 := blk_frozen BK164.out 8; have hfz11_9 := blk_frozen BK164.out 9; have hfz11_10 := blk_frozen BK164.out 10; have hfz11_11 := blk_frozen BK164.out 11; have hfz11_12 := blk_frozen BK164.out 12; have hfz11_13 := blk_frozen BK164.out 13; have hfz11_14 := blk_frozen BK164.out 14) | (go_at_call 47; (with_reducible refine (decoupageref02_Holds.calls a0_6 a0_7 a0_8 a0_9 a1 a2 t165 _ A5.out).mono ?_); rintro e w12 ⟨rfl, hb⟩; have n0_ := Aside0.mk (blk_below (g := gb164) (o := .cells #[.int .i64 a0_0, .int .i64 a0_1, .int .i64 a0_2, .int .i64 a0_3, .int .i64 a0_4, .int .i64 a0_5, .int .i64 a0_6, .int .i64 a0_7, .int .i64 a0_8, .int .i64 a0_9, .int .i64 a0_10, .int .i64 a0_11, .int .i64 a0_12, .int .i64 a0_13, .int .i64 a0_14] 39 (0, 0)) (by (with_reducible repeat (first | refine blk_drewN ?_ _ | refine blk_drew ?_ | refine blk_alloc ?_ _)); exact BK164.out) hb); have n1_ := Aside0.mk (below_step (by repeat (first | (with_reducible first | exact HB.out | apply below_alloc | apply pw_below_drewN | apply below_drew1 | refine below_set ?_ GE164.out) | exact HB.out)) hb); clear BK164; clear HB; have BK164 := n0_; have HB := n1_; clear n0_ n1_; (try clear hb); (try clear hb2); (try clear hk); (try clear hi); have hcz13_0 : w12.cell? ⟨gb164, 0, none⟩ = some (.int .i64 a0_0) := (blk_cell BK164.out 0).trans rfl; have hcz13_1 : w12.cell? ⟨gb164, 1, none⟩ = some (.int .i64 a0_1) := (blk_cell BK164.out 1).trans rfl; have hcz13_2 : w12.cell? ⟨gb164, 2, none⟩ = some (.int .i64 a0_2) := (blk_cell BK164.out 2).trans rfl; have hcz13_3 : w12.cell? ⟨gb164, 3, none⟩ = some (.int .i64 a0_3) := (blk_cell BK164.out 3).trans rfl; have hcz13_4 : w12.cell? ⟨gb164, 4, none⟩ = some (.int .i64 a0_4) := (blk_cell BK164.out 4).trans rfl; have hcz13_5 : w12.cell? ⟨gb164, 5, none⟩ = some (.int .i64 a0_5) := (blk_cell BK164.out 5).trans rfl; have hcz13_6 : w12.cell? ⟨gb164, 6, none⟩ = some (.int .i64 a0_6) := (blk_cell BK164.out 6).trans rfl; have hcz13_7 : w12.cell? ⟨gb164, 7, none⟩ = some (.int .i64 a0_7) := (blk_cell BK164.out 7).trans rfl; have hcz13_8 : w12.cell? ⟨gb164, 8, none⟩ = some (.int .i64 a0_8) := (blk_cell BK164.out 8).trans rfl; have hcz13_9 : w12.cell? ⟨gb164, 9, none⟩ = some (.int .i64 a0_9) := (blk_cell BK164.out 9).trans rfl; have hcz13_10 : w12.cell? ⟨gb164, 10, none⟩ = some (.int .i64 a0_10) := (blk_cell BK164.out 10).trans rfl; have hcz13_11 : w12.cell? ⟨gb164, 11, none⟩ = some (.int .i64 a0_11) := (blk_cell BK164.out 11).trans rfl; have hcz13_12 : w12.cell? ⟨gb164, 12, none⟩ = some (.int .i64 a0_12) := (blk_cell BK164.out 12).trans rfl; have hcz13_13 : w12.cell? ⟨gb164, 13, none⟩ = some (.int .i64 a0_13) := (blk_cell BK164.out 13).trans rfl; have hcz13_14 : w12.cell? ⟨gb164, 14, none⟩ = some (.int .i64 a0_14) := (blk_cell BK164.out 14).trans rfl; have hfz13_0 := blk_frozen BK164.out 0; have hfz13_1 := blk_frozen BK164.out 1; have hfz13_2 := blk_frozen BK164.out 2; have hfz13_3 := blk_frozen BK164.out 3; have hfz13_4 := blk_frozen BK164.out 4; have hfz13_5 := blk_frozen BK164.out 5; have hfz13_6 := blk_frozen BK164.out 6; have hfz13_7 := blk_frozen BK164.out 7; have hfz13_8 := blk_frozen BK164.out 8; have hfz13_9 := blk_frozen BK164.out 9; have hfz13_10 := blk_frozen BK164.out 10; have hfz13_11 := blk_frozen BK164.out 11; have hfz13_12 := blk_frozen BK164.out 12; have hfz13_13 := blk_frozen BK164.out 13; have hfz13_14 := blk_frozen BK164.out 14) | ((with_reducible refine gate_callee (f := 47) rfl ?_); refine goesL_ (some 22) rfl rfl Try.func47 (by kernel_rfl) rfl #[.agg #[.int .i64 a0_2, .int .i64 a0_3, .int .i64 a0_4, .int .i64 a0_5], .int .i64 a1, .int .i64 a2] rfl (by (try simp only [List.map_toArray, List.map_cons, List.map_nil]); first | done | rfl | (simp only [List.length_drop, List.length_take]; rfl)) ?_; (with_reducible refine (decoupageref02_Holds.calls a0_2 a0_3 a0_4 a0_5 a1 a2 true _ A6.out).mono ?_); rintro e w14 ⟨rfl, hb⟩; refine ⟨_, rfl, ?_⟩; have n0_ := Aside0.mk (blk_below (g := gb164) (o := .cells #[.int .i64 a0_0, .int .i64 a0_1, .int .i64 a0_2, .int .i64 a0_3, .int .i64 a0_4, .int .i64 a0_5, .int .i64 a0_6, .int .i64 a0_7, .int .i64 a0_8, .int .i64 a0_9, .int .i64 a0_10, .int .i64 a0_11, .int .i64 a0_12, .int .i64 a0_13, .int .i64 a0_14] 39 (0, 0)) (by (with_reducible repeat (first | refine blk_drewN ?_ _ | refine blk_drew ?_ | refine blk_alloc ?_ _)); exact BK164.out) hb); have n1_ := Aside0.mk (below_step (by repeat (first | (with_reducible first | exact HB.out | apply below_alloc | apply pw_below_drewN | apply below_drew1 | refine below_set ?_ GE164.out) | exact HB.out)) hb); clear BK164; clear HB; have BK164 := n0_; have HB := n1_; clear n0_ n1_; (try clear hb); (try clear hb2); (try clear hk); (try clear hi); have hcz15_0 : w14.cell? ⟨gb164, 0, none⟩ = some (.int .i64 a0_0) := (blk_cell BK164.out 0).trans rfl; have hcz15_1 : w14.cell? ⟨gb164, 1, none⟩ = some (.int .i64 a0_1) := (blk_cell BK164.out 1).trans rfl; have hcz15_2 : w14.cell? ⟨gb164, 2, none⟩ = some (.int .i64 a0_2) := (blk_cell BK164.out 2).trans rfl; have hcz15_3 : w14.cell? ⟨gb164, 3, none⟩ = some (.int .i64 a0_3) := (blk_cell BK164.out 3).trans rfl; have hcz15_4 : w14.cell? ⟨gb164, 4, none⟩ = some (.int .i64 a0_4) := (blk_cell BK164.out 4).trans rfl; have hcz15_5 : w14.cell? ⟨gb164, 5, none⟩ = some (.int .i64 a0_5) := (blk_cell BK164.out 5).trans rfl; have hcz15_6 : w14.cell? ⟨gb164, 6, none⟩ = some (.int .i64 a0_6) := (blk_cell BK164.out 6).trans rfl; have hcz15_7 : w14.cell? ⟨gb164, 7, none⟩ = some (.int .i64 a0_7) := (blk_cell BK164.out 7).trans rfl; have hcz15_8 : w14.cell? ⟨gb164, 8, none⟩ = some (.int .i64 a0_8) := (blk_cell BK164.out 8).trans rfl; have hcz15_9 : w14.cell? ⟨gb164, 9, none⟩ = some (.int .i64 a0_9) := (blk_cell BK164.out 9).trans rfl; have hcz15_10 : w14.cell? ⟨gb164, 10, none⟩ = some (.int .i64 a0_10) := (blk_cell BK164.out 10).trans rfl; have hcz15_11 : w14.cell? ⟨gb164, 11, none⟩ = some (.int .i64 a0_11) := (blk_cell BK164.out 11).trans rfl; have hcz15_12 : w14.cell? ⟨gb164, 12, none⟩ = some (.int .i64 a0_12) := (blk_cell BK164.out 12).trans rfl; have hcz15_13 : w14.cell? ⟨gb164, 13, none⟩ = some (.int .i64 a0_13) := (blk_cell BK164.out 13).trans rfl; have hcz15_14 : w14.cell? ⟨gb164, 14, none⟩ = some (.int .i64 a0_14) := (blk_cell BK164.out 14).trans rfl; have hfz15_0 := blk_frozen BK164.out 0; have hfz15_1 := blk_frozen BK164.out 1; have hfz15_2 := blk_frozen BK164.out 2; have hfz15_3 := blk_frozen BK164.out 3; have hfz15_4 := blk_frozen BK164.out 4; have hfz15_5 := blk_frozen BK164.out 5; have hfz15_6 := blk_frozen BK164.out 6; have hfz15_7 := blk_frozen BK164.out 7; have hfz15_8 := blk_frozen BK164.out 8; have hfz15_9 := blk_frozen BK164.out 9; have hfz15_10 := blk_frozen BK164.out 10; have hfz15_11 := blk_frozen BK164.out 11; have hfz15_12 := blk_frozen BK164.out 12; have hfz15_13 := blk_frozen BK164.out 13; have hfz15_14 := blk_frozen BK164.out 14) | (go_at_call 47; (with_reducible refine (decoupageref02_Holds.calls a0_10 a0_11 a0_12 a0_13 a1 a2 true _ A8.out).mono ?_); rintro e w16 ⟨rfl, hb⟩; have n0_ := Aside0.mk (blk_below (g := gb164) (o := .cells #[.int .i64 a0_0, .int .i64 a0_1, .int .i64 a0_2, .int .i64 a0_3, .int .i64 a0_4, .int .i64 a0_5, .int .i64 a0_6, .int .i64 a0_7, .int .i64 a0_8, .int .i64 a0_9, .int .i64 a0_10, .int .i64 a0_11, .int .i64 a0_12, .int .i64 a0_13, .int .i64 a0_14] 39 (0, 0)) (by (with_reducible repeat (first | refine blk_drewN ?_ _ | refine blk_drew ?_ | refine blk_alloc ?_ _)); exact BK164.out) hb); have n1_ := Aside0.mk (below_step (by repeat (first | (with_reducible first | exact HB.out | apply below_alloc | apply pw_below_drewN | apply below_drew1 | refine below_set ?_ GE164.out) | exact HB.out)) hb); clear BK164; clear HB; have BK164 := n0_; have HB := n1_; clear n0_ n1_; (try clear hb); (try clear hb2); (try clear hk); (try clear hi)))
        go_ret
        exact ⟨by first | rfl | (simp [errW_none, errW_some] <;> rfl) | (simp [*, errW_none, errW_some] <;> rfl), by repeat (first | (with_reducible first | exact HB.out | apply below_alloc | apply pw_below_drewN | apply below_drew1 | refine below_set ?_ GE164.out) | exact HB.out)⟩
      · replace c9 := Bool.eq_false_iff.mpr c9
        subst c9
        have H1 : (some false) = some r := by rw [if_neg (show ¬ (false = true) by decide)] at H; exact H
        clear H
        have H := H1
        clear H1
        obtain rfl := Option.some.inj H
        go_enter Try.func48, Try.ntmps48
        go_wp2_with (first | ((with_reducible refine gate_dst (N := 3) rfl ?_); refine box_event ?hg (N := 3) ?hd (cs := #[.int .i64 a0_0, .int .i64 a0_1, .int .i64 a0_2, .int .i64 a0_3, .int .i64 a0_4, .int .i64 a0_5, .int .i64 a0_6, .int .i64 a0_7, .int .i64 a0_8, .int .i64 a0_9, .int .i64 a0_10, .int .i64 a0_11, .int .i64 a0_12, .int .i64 a0_13, .int .i64 a0_14]) (t := 39) ?hr ?_; (case hd => rfl); (case hg => rfl); (case hr => first | (go_simp; done) | (go_simp; rfl)); intro gb164 hg w17 hbox hb; have n0_ := Aside0.mk (below_step (by repeat (first | (with_reducible first | exact HB.out | apply below_alloc | apply pw_below_drewN | apply below_drew1) | exact HB.out)) hb); have n1_ := Aside0.mk (hbox); have n2_ := Aside0.mk ((by rw [hg]; exact (below_size (by repeat (first | (with_reducible first | exact HB.out | apply below_alloc | apply pw_below_drewN | apply below_drew1) | exact HB.out))) : w.heap.size ≤ gb164)); have n3_ := Aside0.mk ((by rw [hg]; exact (below_size (by repeat (first | (with_reducible first | exact HB.out | apply below_alloc | apply pw_below_drewN | apply below_drew1) | exact HB.out))) : w.heap.size ≤ gb164)); clear HB; have HB := n0_; have BK164 := n1_; have GW164 := n2_; have GE164 := n3_; clear n0_ n1_ n2_ n3_; clear hb hbox hg; have hcz18_0 : w17.cell? ⟨gb164, 0, none⟩ = some (.int .i64 a0_0) := (blk_cell BK164.out 0).trans rfl; have hcz18_1 : w17.cell? ⟨gb164, 1, none⟩ = some (.int .i64 a0_1) := (blk_cell BK164.out 1).trans rfl; have hcz18_2 : w17.cell? ⟨gb164, 2, none⟩ = some (.int .i64 a0_2) := (blk_cell BK164.out 2).trans rfl; have hcz18_3 : w17.cell? ⟨gb164, 3, none⟩ = some (.int .i64 a0_3) := (blk_cell BK164.out 3).trans rfl; have hcz18_4 : w17.cell? ⟨gb164, 4, none⟩ = some (.int .i64 a0_4) := (blk_cell BK164.out 4).trans rfl; have hcz18_5 : w17.cell? ⟨gb164, 5, none⟩ = some (.int .i64 a0_5) := (blk_cell BK164.out 5).trans rfl; have hcz18_6 : w17.cell? ⟨gb164, 6, none⟩ = some (.int .i64 a0_6) := (blk_cell BK164.out 6).trans rfl; have hcz18_7 : w17.cell? ⟨gb164, 7, none⟩ = some (.int .i64 a0_7) := (blk_cell BK164.out 7).trans rfl; have hcz18_8 : w17.cell? ⟨gb164, 8, none⟩ = some (.int .i64 a0_8) := (blk_cell BK164.out 8).trans rfl; have hcz18_9 : w17.cell? ⟨gb164, 9, none⟩ = some (.int .i64 a0_9) := (blk_cell BK164.out 9).trans rfl; have hcz18_10 : w17.cell? ⟨gb164, 10, none⟩ = some (.int .i64 a0_10) := (blk_cell BK164.out 10).trans rfl; have hcz18_11 : w17.cell? ⟨gb164, 11, none⟩ = some (.int .i64 a0_11) := (blk_cell BK164.out 11).trans rfl; have hcz18_12 : w17.cell? ⟨gb164, 12, none⟩ = some (.int .i64 a0_12) := (blk_cell BK164.out 12).trans rfl; have hcz18_13 : w17.cell? ⟨gb164, 13, none⟩ = some (.int .i64 a0_13) := (blk_cell BK164.out 13).trans rfl; have hcz18_14 : w17.cell? ⟨gb164, 14, none⟩ = some (.int .i64 a0_14) := (blk_cell BK164.out 14).trans rfl; have hfz18_0 := blk_frozen BK164.out 0; have hfz18_1 := blk_frozen BK164.out 1; have hfz18_2 := blk_frozen BK164.out 2; have hfz18_3 := blk_frozen BK164.out 3; have hfz18_4 := blk_frozen BK164.out 4; have hfz18_5 := blk_frozen BK164.out 5; have hfz18_6 := blk_frozen BK164.out 6; have hfz18_7 := blk_frozen BK164.out 7; have hfz18_8 := blk_frozen BK164.out 8; have hfz18_9 := blk_frozen BK164.out 9; have hfz18_10 := blk_frozen BK164.out 10; have hfz18_11 := blk_frozen BK164.out 11; have hfz18_12 := blk_frozen BK164.out 12; have hfz18_13 := blk_frozen BK164.out 13; have hfz18_14 := blk_frozen BK164.out 14) | (go_at_call 47; (with_reducible refine (decoupageref02_Holds.calls a0_6 a0_7 a0_8 a0_9 a1 a2 t165 _ A5.out).mono ?_); rintro e w19 ⟨rfl, hb⟩; have n0_ := Aside0.mk (blk_below (g := gb164) (o := .cells #[.int .i64 a0_0, .int .i64 a0_1, .int .i64 a0_2, .int .i64 a0_3, .int .i64 a0_4, .int .i64 a0_5, .int .i64 a0_6, .int .i64 a0_7, .int .i64 a0_8, .int .i64 a0_9, .int .i64 a0_10, .int .i64 a0_11, .int .i64 a0_12, .int .i64 a0_13, .int .i64 a0_14] 39 (0, 0)) (by (with_reducible repeat (first | refine blk_drewN ?_ _ | refine blk_drew ?_ | refine blk_alloc ?_ _)); exact BK164.out) hb); have n1_ := Aside0.mk (below_step (by repeat (first | (with_reducible first | exact HB.out | apply below_alloc | apply pw_below_drewN | apply below_drew1 | refine below_set ?_ GE164.out) | exact HB.out)) hb); clear BK164; clear HB; have BK164 := n0_; have HB := n1_; clear n0_ n1_; (try clear hb); (try clear hb2); (try clear hk); (try clear hi); have hcz20_0 : w19.cell? ⟨gb164, 0, none⟩ = some (.int .i64 a0_0) := (blk_cell BK164.out 0).trans rfl; have hcz20_1 : w19.cell? ⟨gb164, 1, none⟩ = some (.int .i64 a0_1) := (blk_cell BK164.out 1).trans rfl; have hcz20_2 : w19.cell? ⟨gb164, 2, none⟩ = some (.int .i64 a0_2) := (blk_cell BK164.out 2).trans rfl; have hcz20_3 : w19.cell? ⟨gb164, 3, none⟩ = some (.int .i64 a0_3) := (blk_cell BK164.out 3).trans rfl; have hcz20_4 : w19.cell? ⟨gb164, 4, none⟩ = some (.int .i64 a0_4) := (blk_cell BK164.out 4).trans rfl; have hcz20_5 : w19.cell? ⟨gb164, 5, none⟩ = some (.int .i64 a0_5) := (blk_cell BK164.out 5).trans rfl; have hcz20_6 : w19.cell? ⟨gb164, 6, none⟩ = some (.int .i64 a0_6) := (blk_cell BK164.out 6).trans rfl; have hcz20_7 : w19.cell? ⟨gb164, 7, none⟩ = some (.int .i64 a0_7) := (blk_cell BK164.out 7).trans rfl; have hcz20_8 : w19.cell? ⟨gb164, 8, none⟩ = some (.int .i64 a0_8) := (blk_cell BK164.out 8).trans rfl; have hcz20_9 : w19.cell? ⟨gb164, 9, none⟩ = some (.int .i64 a0_9) := (blk_cell BK164.out 9).trans rfl; have hcz20_10 : w19.cell? ⟨gb164, 10, none⟩ = some (.int .i64 a0_10) := (blk_cell BK164.out 10).trans rfl; have hcz20_11 : w19.cell? ⟨gb164, 11, none⟩ = some (.int .i64 a0_11) := (blk_cell BK164.out 11).trans rfl; have hcz20_12 : w19.cell? ⟨gb164, 12, none⟩ = some (.int .i64 a0_12) := (blk_cell BK164.out 12).trans rfl; have hcz20_13 : w19.cell? ⟨gb164, 13, none⟩ = some (.int .i64 a0_13) := (blk_cell BK164.out 13).trans rfl; have hcz20_14 : w19.cell? ⟨gb164, 14, none⟩ = some (.int .i64 a0_14) := (blk_cell BK164.out 14).trans rfl; have hfz20_0 := blk_frozen BK164.out 0; have hfz20_1 := blk_frozen BK164.out 1; have hfz20_2 := blk_frozen BK164.out 2; have hfz20_3 := blk_frozen BK164.out 3; have hfz20_4 := blk_frozen BK164.out 4; have hfz20_5 := blk_frozen BK164.out 5; have hfz20_6 := blk_frozen BK164.out 6; have hfz20_7 := blk_frozen BK164.out 7; have hfz20_8 := blk_frozen BK164.out 8; have hfz20_9 := blk_frozen BK164.out 9; have hfz20_10 := blk_frozen BK164.out 10; have hfz20_11 := blk_frozen BK164.out 11; have hfz20_12 := blk_frozen BK164.out 12; have hfz20_13 := blk_frozen BK164.out 13; have hfz20_14 := blk_frozen BK164.out 14) | ((with_reducible refine gate_callee (f := 47) rfl ?_); refine goesL_ (some 22) rfl rfl Try.func47 (by kernel_rfl) rfl #[.agg #[.int .i64 a0_2, .int .i64 a0_3, .int .i64 a0_4, .int .i64 a0_5], .int .i64 a1, .int .i64 a2] rfl (by (try simp only [List.map_toArray, List.map_cons, List.map_nil]); first | done | rfl | (simp only [List.length_drop, List.length_take]; rfl)) ?_; (with_reducible refine (decoupageref02_Holds.calls a0_2 a0_3 a0_4 a0_5 a1 a2 true _ A6.out).mono ?_); rintro e w21 ⟨rfl, hb⟩; refine ⟨_, rfl, ?_⟩; have n0_ := Aside0.mk (blk_below (g := gb164) (o := .cells #[.int .i64 a0_0, .int .i64 a0_1, .int .i64 a0_2, .int .i64 a0_3, .int .i64 a0_4, .int .i64 a0_5, .int .i64 a0_6, .int .i64 a0_7, .int .i64 a0_8, .int .i64 a0_9, .int .i64 a0_10, .int .i64 a0_11, .int .i64 a0_12, .int .i64 a0_13, .int .i64 a0_14] 39 (0, 0)) (by (with_reducible repeat (first | refine blk_drewN ?_ _ | refine blk_drew ?_ | refine blk_alloc ?_ _)); exact BK164.out) hb); have n1_ := Aside0.mk (below_step (by repeat (first | (with_reducible first | exact HB.out | apply below_alloc | apply pw_below_drewN | apply below_drew1 | refine below_set ?_ GE164.out) | exact HB.out)) hb); clear BK164; clear HB; have BK164 := n0_; have HB := n1_; clear n0_ n1_; (try clear hb); (try clear hb2); (try clear hk); (try clear hi); have hcz22_0 : w21.cell? ⟨gb164, 0, none⟩ = some (.int .i64 a0_0) := (blk_cell BK164.out 0).trans rfl; have hcz22_1 : w21.cell? ⟨gb164, 1, none⟩ = some (.int .i64 a0_1) := (blk_cell BK164.out 1).trans rfl; have hcz22_2 : w21.cell? ⟨gb164, 2, none⟩ = some (.int .i64 a0_2) := (blk_cell BK164.out 2).trans rfl; have hcz22_3 : w21.cell? ⟨gb164, 3, none⟩ = some (.int .i64 a0_3) := (blk_cell BK164.out 3).trans rfl; have hcz22_4 : w21.cell? ⟨gb164, 4, none⟩ = some (.int .i64 a0_4) := (blk_cell BK164.out 4).trans rfl; have hcz22_5 : w21.cell? ⟨gb164, 5, none⟩ = some (.int .i64 a0_5) := (blk_cell BK164.out 5).trans rfl; have hcz22_6 : w21.cell? ⟨gb164, 6, none⟩ = some (.int .i64 a0_6) := (blk_cell BK164.out 6).trans rfl; have hcz22_7 : w21.cell? ⟨gb164, 7, none⟩ = some (.int .i64 a0_7) := (blk_cell BK164.out 7).trans rfl; have hcz22_8 : w21.cell? ⟨gb164, 8, none⟩ = some (.int .i64 a0_8) := (blk_cell BK164.out 8).trans rfl; have hcz22_9 : w21.cell? ⟨gb164, 9, none⟩ = some (.int .i64 a0_9) := (blk_cell BK164.out 9).trans rfl; have hcz22_10 : w21.cell? ⟨gb164, 10, none⟩ = some (.int .i64 a0_10) := (blk_cell BK164.out 10).trans rfl; have hcz22_11 : w21.cell? ⟨gb164, 11, none⟩ = some (.int .i64 a0_11) := (blk_cell BK164.out 11).trans rfl; have hcz22_12 : w21.cell? ⟨gb164, 12, none⟩ = some (.int .i64 a0_12) := (blk_cell BK164.out 12).trans rfl; have hcz22_13 : w21.cell? ⟨gb164, 13, none⟩ = some (.int .i64 a0_13) := (blk_cell BK164.out 13).trans rfl; have hcz22_14 : w21.cell? ⟨gb164, 14, none⟩ = some (.int .i64 a0_14) := (blk_cell BK164.out 14).trans rfl; have hfz22_0 := blk_frozen BK164.out 0; have hfz22_1 := blk_frozen BK164.out 1; have hfz22_2 := blk_frozen BK164.out 2; have hfz22_3 := blk_frozen BK164.out 3; have hfz22_4 := blk_frozen BK164.out 4; have hfz22_5 := blk_frozen BK164.out 5; have hfz22_6 := blk_frozen BK164.out 6; have hfz22_7 := blk_frozen BK164.out 7; have hfz22_8 := blk_frozen BK164.out 8; have hfz22_9 := blk_frozen BK164.out 9; have hfz22_10 := blk_frozen BK164.out 10; have hfz22_11 := blk_frozen BK164.out 11; have hfz22_12 := blk_frozen BK164.out 12; have hfz22_13 := blk_frozen BK164.out 13; have hfz22_14 := blk_frozen BK164.out 14) | (go_at_call 47; (with_reducible refine (decoupageref02_Holds.calls a0_10 a0_11 a0_12 a0_13 a1 a2 false _ A8.out).mono ?_); rintro e w23 ⟨rfl, hb⟩; have n0_ := Aside0.mk (blk_below (g := gb164) (o := .cells #[.int .i64 a0_0, .int .i64 a0_1, .int .i64 a0_2, .int .i64 a0_3, .int .i64 a0_4, .int .i64 a0_5, .int .i64 a0_6, .int .i64 a0_7, .int .i64 a0_8, .int .i64 a0_9, .int .i64 a0_10, .int .i64 a0_11, .int .i64 a0_12, .int .i64 a0_13, .int .i64 a0_14] 39 (0, 0)) (by (with_reducible repeat (first | refine blk_drewN ?_ _ | refine blk_drew ?_ | refine blk_alloc ?_ _)); exact BK164.out) hb); have n1_ := Aside0.mk (below_step (by repeat (first | (with_reducible first | exact HB.out | apply below_alloc | apply pw_below_drewN | apply below_drew1 | refine below_set ?_ GE164.out) | exact HB.out)) hb); clear BK164; clear HB; have BK164 := n0_; have HB := n1_; clear n0_ n1_; (try clear hb); (try clear hb2); (try clear hk); (try clear hi)))
        go_ret
        exact ⟨by first | rfl | (simp [errW_none, errW_some] <;> rfl) | (simp [*, errW_none, errW_some] <;> rfl), by repeat (first | (with_reducible first | exact HB.out | apply below_alloc | apply pw_below_drewN | apply below_drew1 | refine below_set ?_ GE164.out) | exact HB.out)⟩
    · replace c7 := Bool.eq_false_iff.mpr c7
      subst c7
      have H1 : (some false) = some r := by rw [if_neg (show ¬ (false = true) by decide)] at H; exact H
      clear H
      have H := H1
      clear H1
      obtain rfl := Option.some.inj H
      go_enter Try.func48, Try.ntmps48
      go_wp2_with (first | ((with_reducible refine gate_dst (N := 3) rfl ?_); refine box_event ?hg (N := 3) ?hd (cs := #[.int .i64 a0_0, .int .i64 a0_1, .int .i64 a0_2, .int .i64 a0_3, .int .i64 a0_4, .int .i64 a0_5, .int .i64 a0_6, .int .i64 a0_7, .int .i64 a0_8, .int .i64 a0_9, .int .i64 a0_10, .int .i64 a0_11, .int .i64 a0_12, .int .i64 a0_13, .int .i64 a0_14]) (t := 39) ?hr ?_; (case hd => rfl); (case hg => rfl); (case hr => first | (go_simp; done) | (go_simp; rfl)); intro gb164 hg w24 hbox hb; have n0_ := Aside0.mk (below_step (by repeat (first | (with_reducible first | exact HB.out | apply below_alloc | apply pw_below_drewN | apply below_drew1) | exact HB.out)) hb); have n1_ := Aside0.mk (hbox); have n2_ := Aside0.mk ((by rw [hg]; exact (below_size (by repeat (first | (with_reducible first | exact HB.out | apply below_alloc | apply pw_below_drewN | apply below_drew1) | exact HB.out))) : w.heap.size ≤ gb164)); have n3_ := Aside0.mk ((by rw [hg]; exact (below_size (by repeat (first | (with_reducible first | exact HB.out | apply below_alloc | apply pw_below_drewN | apply below_drew1) | exact HB.out))) : w.heap.size ≤ gb164)); clear HB; have HB := n0_; have BK164 := n1_; have GW164 := n2_; have GE164 := n3_; clear n0_ n1_ n2_ n3_; clear hb hbox hg; have hcz25_0 : w24.cell? ⟨gb164, 0, none⟩ = some (.int .i64 a0_0) := (blk_cell BK164.out 0).trans rfl; have hcz25_1 : w24.cell? ⟨gb164, 1, none⟩ = some (.int .i64 a0_1) := (blk_cell BK164.out 1).trans rfl; have hcz25_2 : w24.cell? ⟨gb164, 2, none⟩ = some (.int .i64 a0_2) := (blk_cell BK164.out 2).trans rfl; have hcz25_3 : w24.cell? ⟨gb164, 3, none⟩ = some (.int .i64 a0_3) := (blk_cell BK164.out 3).trans rfl; have hcz25_4 : w24.cell? ⟨gb164, 4, none⟩ = some (.int .i64 a0_4) := (blk_cell BK164.out 4).trans rfl; have hcz25_5 : w24.cell? ⟨gb164, 5, none⟩ = some (.int .i64 a0_5) := (blk_cell BK164.out 5).trans rfl; have hcz25_6 : w24.cell? ⟨gb164, 6, none⟩ = some (.int .i64 a0_6) := (blk_cell BK164.out 6).trans rfl; have hcz25_7 : w24.cell? ⟨gb164, 7, none⟩ = some (.int .i64 a0_7) := (blk_cell BK164.out 7).trans rfl; have hcz25_8 : w24.cell? ⟨gb164, 8, none⟩ = some (.int .i64 a0_8) := (blk_cell BK164.out 8).trans rfl; have hcz25_9 : w24.cell? ⟨gb164, 9, none⟩ = some (.int .i64 a0_9) := (blk_cell BK164.out 9).trans rfl; have hcz25_10 : w24.cell? ⟨gb164, 10, none⟩ = some (.int .i64 a0_10) := (blk_cell BK164.out 10).trans rfl; have hcz25_11 : w24.cell? ⟨gb164, 11, none⟩ = some (.int .i64 a0_11) := (blk_cell BK164.out 11).trans rfl; have hcz25_12 : w24.cell? ⟨gb164, 12, none⟩ = some (.int .i64 a0_12) := (blk_cell BK164.out 12).trans rfl; have hcz25_13 : w24.cell? ⟨gb164, 13, none⟩ = some (.int .i64 a0_13) := (blk_cell BK164.out 13).trans rfl; have hcz25_14 : w24.cell? ⟨gb164, 14, none⟩ = some (.int .i64 a0_14) := (blk_cell BK164.out 14).trans rfl; have hfz25_0 := blk_frozen BK164.out 0; have hfz25_1 := blk_frozen BK164.out 1; have hfz25_2 := blk_frozen BK164.out 2; have hfz25_3 := blk_frozen BK164.out 3; have hfz25_4 := blk_frozen BK164.out 4; have hfz25_5 := blk_frozen BK164.out 5; have hfz25_6 := blk_frozen BK164.out 6; have hfz25_7 := blk_frozen BK164.out 7; have hfz25_8 := blk_frozen BK164.out 8; have hfz25_9 := blk_frozen BK164.out 9; have hfz25_10 := blk_frozen BK164.out 10; have hfz25_11 := blk_frozen BK164.out 11; have hfz25_12 := blk_frozen BK164.out 12; have hfz25_13 := blk_frozen BK164.out 13; have hfz25_14 := blk_frozen BK164.out 14) | (go_at_call 47; (with_reducible refine (decoupageref02_Holds.calls a0_6 a0_7 a0_8 a0_9 a1 a2 t165 _ A5.out).mono ?_); rintro e w26 ⟨rfl, hb⟩; have n0_ := Aside0.mk (blk_below (g := gb164) (o := .cells #[.int .i64 a0_0, .int .i64 a0_1, .int .i64 a0_2, .int .i64 a0_3, .int .i64 a0_4, .int .i64 a0_5, .int .i64 a0_6, .int .i64 a0_7, .int .i64 a0_8, .int .i64 a0_9, .int .i64 a0_10, .int .i64 a0_11, .int .i64 a0_12, .int .i64 a0_13, .int .i64 a0_14] 39 (0, 0)) (by (with_reducible repeat (first | refine blk_drewN ?_ _ | refine blk_drew ?_ | refine blk_alloc ?_ _)); exact BK164.out) hb); have n1_ := Aside0.mk (below_step (by repeat (first | (with_reducible first | exact HB.out | apply below_alloc | apply pw_below_drewN | apply below_drew1 | refine below_set ?_ GE164.out) | exact HB.out)) hb); clear BK164; clear HB; have BK164 := n0_; have HB := n1_; clear n0_ n1_; (try clear hb); (try clear hb2); (try clear hk); (try clear hi); have hcz27_0 : w26.cell? ⟨gb164, 0, none⟩ = some (.int .i64 a0_0) := (blk_cell BK164.out 0).trans rfl; have hcz27_1 : w26.cell? ⟨gb164, 1, none⟩ = some (.int .i64 a0_1) := (blk_cell BK164.out 1).trans rfl; have hcz27_2 : w26.cell? ⟨gb164, 2, none⟩ = some (.int .i64 a0_2) := (blk_cell BK164.out 2).trans rfl; have hcz27_3 : w26.cell? ⟨gb164, 3, none⟩ = some (.int .i64 a0_3) := (blk_cell BK164.out 3).trans rfl; have hcz27_4 : w26.cell? ⟨gb164, 4, none⟩ = some (.int .i64 a0_4) := (blk_cell BK164.out 4).trans rfl; have hcz27_5 : w26.cell? ⟨gb164, 5, none⟩ = some (.int .i64 a0_5) := (blk_cell BK164.out 5).trans rfl; have hcz27_6 : w26.cell? ⟨gb164, 6, none⟩ = some (.int .i64 a0_6) := (blk_cell BK164.out 6).trans rfl; have hcz27_7 : w26.cell? ⟨gb164, 7, none⟩ = some (.int .i64 a0_7) := (blk_cell BK164.out 7).trans rfl; have hcz27_8 : w26.cell? ⟨gb164, 8, none⟩ = some (.int .i64 a0_8) := (blk_cell BK164.out 8).trans rfl; have hcz27_9 : w26.cell? ⟨gb164, 9, none⟩ = some (.int .i64 a0_9) := (blk_cell BK164.out 9).trans rfl; have hcz27_10 : w26.cell? ⟨gb164, 10, none⟩ = some (.int .i64 a0_10) := (blk_cell BK164.out 10).trans rfl; have hcz27_11 : w26.cell? ⟨gb164, 11, none⟩ = some (.int .i64 a0_11) := (blk_cell BK164.out 11).trans rfl; have hcz27_12 : w26.cell? ⟨gb164, 12, none⟩ = some (.int .i64 a0_12) := (blk_cell BK164.out 12).trans rfl; have hcz27_13 : w26.cell? ⟨gb164, 13, none⟩ = some (.int .i64 a0_13) := (blk_cell BK164.out 13).trans rfl; have hcz27_14 : w26.cell? ⟨gb164, 14, none⟩ = some (.int .i64 a0_14) := (blk_cell BK164.out 14).trans rfl; have hfz27_0 := blk_frozen BK164.out 0; have hfz27_1 := blk_frozen BK164.out 1; have hfz27_2 := blk_frozen BK164.out 2; have hfz27_3 := blk_frozen BK164.out 3; have hfz27_4 := blk_frozen BK164.out 4; have hfz27_5 := blk_frozen BK164.out 5; have hfz27_6 := blk_frozen BK164.out 6; have hfz27_7 := blk_frozen BK164.out 7; have hfz27_8 := blk_frozen BK164.out 8; have hfz27_9 := blk_frozen BK164.out 9; have hfz27_10 := blk_frozen BK164.out 10; have hfz27_11 := blk_frozen BK164.out 11; have hfz27_12 := blk_frozen BK164.out 12; have hfz27_13 := blk_frozen BK164.out 13; have hfz27_14 := blk_frozen BK164.out 14) | ((with_reducible refine gate_callee (f := 47) rfl ?_); refine goesL_ (some 22) rfl rfl Try.func47 (by kernel_rfl) rfl #[.agg #[.int .i64 a0_2, .int .i64 a0_3, .int .i64 a0_4, .int .i64 a0_5], .int .i64 a1, .int .i64 a2] rfl (by (try simp only [List.map_toArray, List.map_cons, List.map_nil]); first | done | rfl | (simp only [List.length_drop, List.length_take]; rfl)) ?_; (with_reducible refine (decoupageref02_Holds.calls a0_2 a0_3 a0_4 a0_5 a1 a2 false _ A6.out).mono ?_); rintro e w28 ⟨rfl, hb⟩; refine ⟨_, rfl, ?_⟩; have n0_ := Aside0.mk (blk_below (g := gb164) (o := .cells #[.int .i64 a0_0, .int .i64 a0_1, .int .i64 a0_2, .int .i64 a0_3, .int .i64 a0_4, .int .i64 a0_5, .int .i64 a0_6, .int .i64 a0_7, .int .i64 a0_8, .int .i64 a0_9, .int .i64 a0_10, .int .i64 a0_11, .int .i64 a0_12, .int .i64 a0_13, .int .i64 a0_14] 39 (0, 0)) (by (with_reducible repeat (first | refine blk_drewN ?_ _ | refine blk_drew ?_ | refine blk_alloc ?_ _)); exact BK164.out) hb); have n1_ := Aside0.mk (below_step (by repeat (first | (with_reducible first | exact HB.out | apply below_alloc | apply pw_below_drewN | apply below_drew1 | refine below_set ?_ GE164.out) | exact HB.out)) hb); clear BK164; clear HB; have BK164 := n0_; have HB := n1_; clear n0_ n1_; (try clear hb); (try clear hb2); (try clear hk); (try clear hi)))
      go_ret
      exact ⟨by first | rfl | (simp [errW_none, errW_some] <;> rfl) | (simp [*, errW_none, errW_some] <;> rfl), by repeat (first | (with_reducible first | exact HB.out | apply below_alloc | apply pw_below_drewN | apply below_drew1 | refine below_set ?_ GE164.out) | exact HB.out)⟩
  · rw [if_neg c4] at H
    have c4b0 : (a0_1 == 1) = false := beq_eq_false_iff_ne.mpr c4
    have c4b1 : (a0_1 != 1) = true := bne_iff_ne.mpr c4
    replace H := Option.bind_eq_some_iff.mp H
    obtain ⟨t168, A290, H⟩ := H
    replace H : (if t168 = true then ((decoupageref02_Holds.f a0_10 a0_11 a0_12 a0_13 a1 a2).bind fun t169 => (if t169 = true then (some (!false)) else (some false))) else (some false)) = some r := H
    have A29 := Aside0.mk A290
    clear A290
    by_cases c30 : t168 = true
    · subst c30
      have H1 : ((decoupageref02_Holds.f a0_10 a0_11 a0_12 a0_13 a1 a2).bind fun t169 => (if t169 = true then (some (!false)) else (some false))) = some r := by rw [if_pos rfl] at H; exact H
      clear H
      have H := H1
      clear H1
      replace H := Option.bind_eq_some_iff.mp H
      obtain ⟨t169, A310, H⟩ := H
      replace H : (if t169 = true then (some (!false)) else (some false)) = some r := H
      have A31 := Aside0.mk A310
      clear A310
      by_cases c32 : t169 = true
      · subst c32
        have H1 : (some (!false)) = some r := by rw [if_pos rfl] at H; exact H
        clear H
        have H := H1
        clear H1
        obtain rfl := Option.some.inj H
        go_enter Try.func48, Try.ntmps48
        go_wp2_with (first | ((with_reducible refine gate_dst (N := 3) rfl ?_); refine box_event ?hg (N := 3) ?hd (cs := #[.int .i64 a0_0, .int .i64 a0_1, .int .i64 a0_2, .int .i64 a0_3, .int .i64 a0_4, .int .i64 a0_5, .int .i64 a0_6, .int .i64 a0_7, .int .i64 a0_8, .int .i64 a0_9, .int .i64 a0_10, .int .i64 a0_11, .int .i64 a0_12, .int .i64 a0_13, .int .i64 a0_14]) (t := 39) ?hr ?_; (case hd => rfl); (case hg => rfl); (case hr => first | (go_simp; done) | (go_simp; rfl)); intro gb164 hg w33 hbox hb; have n0_ := Aside0.mk (below_step (by repeat (first | (with_reducible first | exact HB.out | apply below_alloc | apply pw_below_drewN | apply below_drew1) | exact HB.out)) hb); have n1_ := Aside0.mk (hbox); have n2_ := Aside0.mk ((by rw [hg]; exact (below_size (by repeat (first | (with_reducible first | exact HB.out | apply below_alloc | apply pw_below_drewN | apply below_drew1) | exact HB.out))) : w.heap.size ≤ gb164)); have n3_ := Aside0.mk ((by rw [hg]; exact (below_size (by repeat (first | (with_reducible first | exact HB.out | apply below_alloc | apply pw_below_drewN | apply below_drew1) | exact HB.out))) : w.heap.size ≤ gb164)); clear HB; have HB := n0_; have BK164 := n1_; have GW164 := n2_; have GE164 := n3_; clear n0_ n1_ n2_ n3_; clear hb hbox hg; have hcz34_0 : w33.cell? ⟨gb164, 0, none⟩ = some (.int .i64 a0_0) := (blk_cell BK164.out 0).trans rfl; have hcz34_1 : w33.cell? ⟨gb164, 1, none⟩ = some (.int .i64 a0_1) := (blk_cell BK164.out 1).trans rfl; have hcz34_2 : w33.cell? ⟨gb164, 2, none⟩ = some (.int .i64 a0_2) := (blk_cell BK164.out 2).trans rfl; have hcz34_3 : w33.cell? ⟨gb164, 3, none⟩ = some (.int .i64 a0_3) := (blk_cell BK164.out 3).trans rfl; have hcz34_4 : w33.cell? ⟨gb164, 4, none⟩ = some (.int .i64 a0_4) := (blk_cell BK164.out 4).trans rfl; have hcz34_5 : w33.cell? ⟨gb164, 5, none⟩ = some (.int .i64 a0_5) := (blk_cell BK164.out 5).trans rfl; have hcz34_6 : w33.cell? ⟨gb164, 6, none⟩ = some (.int .i64 a0_6) := (blk_cell BK164.out 6).trans rfl; have hcz34_7 : w33.cell? ⟨gb164, 7, none⟩ = some (.int .i64 a0_7) := (blk_cell BK164.out 7).trans rfl; have hcz34_8 : w33.cell? ⟨gb164, 8, none⟩ = some (.int .i64 a0_8) := (blk_cell BK164.out 8).trans rfl; have hcz34_9 : w33.cell? ⟨gb164, 9, none⟩ = some (.int .i64 a0_9) := (blk_cell BK164.out 9).trans rfl; have hcz34_10 : w33.cell? ⟨gb164, 10, none⟩ = some (.int .i64 a0_10) := (blk_cell BK164.out 10).trans rfl; have hcz34_11 : w33.cell? ⟨gb164, 11, none⟩ = some (.int .i64 a0_11) := (blk_cell BK164.out 11).trans rfl; have hcz34_12 : w33.cell? ⟨gb164, 12, none⟩ = some (.int .i64 a0_12) := (blk_cell BK164.out 12).trans rfl; have hcz34_13 : w33.cell? ⟨gb164, 13, none⟩ = some (.int .i64 a0_13) := (blk_cell BK164.out 13).trans rfl; have hcz34_14 : w33.cell? ⟨gb164, 14, none⟩ = some (.int .i64 a0_14) := (blk_cell BK164.out 14).trans rfl; have hfz34_0 := blk_frozen BK164.out 0; have hfz34_1 := blk_frozen BK164.out 1; have hfz34_2 := blk_frozen BK164.out 2; have hfz34_3 := blk_frozen BK164.out 3; have hfz34_4 := blk_frozen BK164.out 4; have hfz34_5 := blk_frozen BK164.out 5; have hfz34_6 := blk_frozen BK164.out 6; have hfz34_7 := blk_frozen BK164.out 7; have hfz34_8 := blk_frozen BK164.out 8; have hfz34_9 := blk_frozen BK164.out 9; have hfz34_10 := blk_frozen BK164.out 10; have hfz34_11 := blk_frozen BK164.out 11; have hfz34_12 := blk_frozen BK164.out 12; have hfz34_13 := blk_frozen BK164.out 13; have hfz34_14 := blk_frozen BK164.out 14) | ((with_reducible refine gate_callee (f := 47) rfl ?_); refine goesL_ (some 22) rfl rfl Try.func47 (by kernel_rfl) rfl #[.agg #[.int .i64 a0_2, .int .i64 a0_3, .int .i64 a0_4, .int .i64 a0_5], .int .i64 a1, .int .i64 a2] rfl (by (try simp only [List.map_toArray, List.map_cons, List.map_nil]); first | done | rfl | (simp only [List.length_drop, List.length_take]; rfl)) ?_; (with_reducible refine (decoupageref02_Holds.calls a0_2 a0_3 a0_4 a0_5 a1 a2 true _ A29.out).mono ?_); rintro e w35 ⟨rfl, hb⟩; refine ⟨_, rfl, ?_⟩; have n0_ := Aside0.mk (blk_below (g := gb164) (o := .cells #[.int .i64 a0_0, .int .i64 a0_1, .int .i64 a0_2, .int .i64 a0_3, .int .i64 a0_4, .int .i64 a0_5, .int .i64 a0_6, .int .i64 a0_7, .int .i64 a0_8, .int .i64 a0_9, .int .i64 a0_10, .int .i64 a0_11, .int .i64 a0_12, .int .i64 a0_13, .int .i64 a0_14] 39 (0, 0)) (by (with_reducible repeat (first | refine blk_drewN ?_ _ | refine blk_drew ?_ | refine blk_alloc ?_ _)); exact BK164.out) hb); have n1_ := Aside0.mk (below_step (by repeat (first | (with_reducible first | exact HB.out | apply below_alloc | apply pw_below_drewN | apply below_drew1 | refine below_set ?_ GE164.out) | exact HB.out)) hb); clear BK164; clear HB; have BK164 := n0_; have HB := n1_; clear n0_ n1_; (try clear hb); (try clear hb2); (try clear hk); (try clear hi); have hcz36_0 : w35.cell? ⟨gb164, 0, none⟩ = some (.int .i64 a0_0) := (blk_cell BK164.out 0).trans rfl; have hcz36_1 : w35.cell? ⟨gb164, 1, none⟩ = some (.int .i64 a0_1) := (blk_cell BK164.out 1).trans rfl; have hcz36_2 : w35.cell? ⟨gb164, 2, none⟩ = some (.int .i64 a0_2) := (blk_cell BK164.out 2).trans rfl; have hcz36_3 : w35.cell? ⟨gb164, 3, none⟩ = some (.int .i64 a0_3) := (blk_cell BK164.out 3).trans rfl; have hcz36_4 : w35.cell? ⟨gb164, 4, none⟩ = some (.int .i64 a0_4) := (blk_cell BK164.out 4).trans rfl; have hcz36_5 : w35.cell? ⟨gb164, 5, none⟩ = some (.int .i64 a0_5) := (blk_cell BK164.out 5).trans rfl; have hcz36_6 : w35.cell? ⟨gb164, 6, none⟩ = some (.int .i64 a0_6) := (blk_cell BK164.out 6).trans rfl; have hcz36_7 : w35.cell? ⟨gb164, 7, none⟩ = some (.int .i64 a0_7) := (blk_cell BK164.out 7).trans rfl; have hcz36_8 : w35.cell? ⟨gb164, 8, none⟩ = some (.int .i64 a0_8) := (blk_cell BK164.out 8).trans rfl; have hcz36_9 : w35.cell? ⟨gb164, 9, none⟩ = some (.int .i64 a0_9) := (blk_cell BK164.out 9).trans rfl; have hcz36_10 : w35.cell? ⟨gb164, 10, none⟩ = some (.int .i64 a0_10) := (blk_cell BK164.out 10).trans rfl; have hcz36_11 : w35.cell? ⟨gb164, 11, none⟩ = some (.int .i64 a0_11) := (blk_cell BK164.out 11).trans rfl; have hcz36_12 : w35.cell? ⟨gb164, 12, none⟩ = some (.int .i64 a0_12) := (blk_cell BK164.out 12).trans rfl; have hcz36_13 : w35.cell? ⟨gb164, 13, none⟩ = some (.int .i64 a0_13) := (blk_cell BK164.out 13).trans rfl; have hcz36_14 : w35.cell? ⟨gb164, 14, none⟩ = some (.int .i64 a0_14) := (blk_cell BK164.out 14).trans rfl; have hfz36_0 := blk_frozen BK164.out 0; have hfz36_1 := blk_frozen BK164.out 1; have hfz36_2 := blk_frozen BK164.out 2; have hfz36_3 := blk_frozen BK164.out 3; have hfz36_4 := blk_frozen BK164.out 4; have hfz36_5 := blk_frozen BK164.out 5; have hfz36_6 := blk_frozen BK164.out 6; have hfz36_7 := blk_frozen BK164.out 7; have hfz36_8 := blk_frozen BK164.out 8; have hfz36_9 := blk_frozen BK164.out 9; have hfz36_10 := blk_frozen BK164.out 10; have hfz36_11 := blk_frozen BK164.out 11; have hfz36_12 := blk_frozen BK164.out 12; have hfz36_13 := blk_frozen BK164.out 13; have hfz36_14 := blk_frozen BK164.out 14) | (go_at_call 47; (with_reducible refine (decoupageref02_Holds.calls a0_10 a0_11 a0_12 a0_13 a1 a2 true _ A31.out).mono ?_); rintro e w37 ⟨rfl, hb⟩; have n0_ := Aside0.mk (blk_below (g := gb164) (o := .cells #[.int .i64 a0_0, .int .i64 a0_1, .int .i64 a0_2, .int .i64 a0_3, .int .i64 a0_4, .int .i64 a0_5, .int .i64 a0_6, .int .i64 a0_7, .int .i64 a0_8, .int .i64 a0_9, .int .i64 a0_10, .int .i64 a0_11, .int .i64 a0_12, .int .i64 a0_13, .int .i64 a0_14] 39 (0, 0)) (by (with_reducible repeat (first | refine blk_drewN ?_ _ | refine blk_drew ?_ | refine blk_alloc ?_ _)); exact BK164.out) hb); have n1_ := Aside0.mk (below_step (by repeat (first | (with_reducible first | exact HB.out | apply below_alloc | apply pw_below_drewN | apply below_drew1 | refine below_set ?_ GE164.out) | exact HB.out)) hb); clear BK164; clear HB; have BK164 := n0_; have HB := n1_; clear n0_ n1_; (try clear hb); (try clear hb2); (try clear hk); (try clear hi)))
        go_ret
        exact ⟨by first | rfl | (simp [errW_none, errW_some] <;> rfl) | (simp [*, errW_none, errW_some] <;> rfl), by repeat (first | (with_reducible first | exact HB.out | apply below_alloc | apply pw_below_drewN | apply below_drew1 | refine below_set ?_ GE164.out) | exact HB.out)⟩
      · replace c32 := Bool.eq_false_iff.mpr c32
        subst c32
        have H1 : (some false) = some r := by rw [if_neg (show ¬ (false = true) by decide)] at H; exact H
        clear H
        have H := H1
        clear H1
        obtain rfl := Option.some.inj H
        go_enter Try.func48, Try.ntmps48
        go_wp2_with (first | ((with_reducible refine gate_dst (N := 3) rfl ?_); refine box_event ?hg (N := 3) ?hd (cs := #[.int .i64 a0_0, .int .i64 a0_1, .int .i64 a0_2, .int .i64 a0_3, .int .i64 a0_4, .int .i64 a0_5, .int .i64 a0_6, .int .i64 a0_7, .int .i64 a0_8, .int .i64 a0_9, .int .i64 a0_10, .int .i64 a0_11, .int .i64 a0_12, .int .i64 a0_13, .int .i64 a0_14]) (t := 39) ?hr ?_; (case hd => rfl); (case hg => rfl); (case hr => first | (go_simp; done) | (go_simp; rfl)); intro gb164 hg w38 hbox hb; have n0_ := Aside0.mk (below_step (by repeat (first | (with_reducible first | exact HB.out | apply below_alloc | apply pw_below_drewN | apply below_drew1) | exact HB.out)) hb); have n1_ := Aside0.mk (hbox); have n2_ := Aside0.mk ((by rw [hg]; exact (below_size (by repeat (first | (with_reducible first | exact HB.out | apply below_alloc | apply pw_below_drewN | apply below_drew1) | exact HB.out))) : w.heap.size ≤ gb164)); have n3_ := Aside0.mk ((by rw [hg]; exact (below_size (by repeat (first | (with_reducible first | exact HB.out | apply below_alloc | apply pw_below_drewN | apply below_drew1) | exact HB.out))) : w.heap.size ≤ gb164)); clear HB; have HB := n0_; have BK164 := n1_; have GW164 := n2_; have GE164 := n3_; clear n0_ n1_ n2_ n3_; clear hb hbox hg; have hcz39_0 : w38.cell? ⟨gb164, 0, none⟩ = some (.int .i64 a0_0) := (blk_cell BK164.out 0).trans rfl; have hcz39_1 : w38.cell? ⟨gb164, 1, none⟩ = some (.int .i64 a0_1) := (blk_cell BK164.out 1).trans rfl; have hcz39_2 : w38.cell? ⟨gb164, 2, none⟩ = some (.int .i64 a0_2) := (blk_cell BK164.out 2).trans rfl; have hcz39_3 : w38.cell? ⟨gb164, 3, none⟩ = some (.int .i64 a0_3) := (blk_cell BK164.out 3).trans rfl; have hcz39_4 : w38.cell? ⟨gb164, 4, none⟩ = some (.int .i64 a0_4) := (blk_cell BK164.out 4).trans rfl; have hcz39_5 : w38.cell? ⟨gb164, 5, none⟩ = some (.int .i64 a0_5) := (blk_cell BK164.out 5).trans rfl; have hcz39_6 : w38.cell? ⟨gb164, 6, none⟩ = some (.int .i64 a0_6) := (blk_cell BK164.out 6).trans rfl; have hcz39_7 : w38.cell? ⟨gb164, 7, none⟩ = some (.int .i64 a0_7) := (blk_cell BK164.out 7).trans rfl; have hcz39_8 : w38.cell? ⟨gb164, 8, none⟩ = some (.int .i64 a0_8) := (blk_cell BK164.out 8).trans rfl; have hcz39_9 : w38.cell? ⟨gb164, 9, none⟩ = some (.int .i64 a0_9) := (blk_cell BK164.out 9).trans rfl; have hcz39_10 : w38.cell? ⟨gb164, 10, none⟩ = some (.int .i64 a0_10) := (blk_cell BK164.out 10).trans rfl; have hcz39_11 : w38.cell? ⟨gb164, 11, none⟩ = some (.int .i64 a0_11) := (blk_cell BK164.out 11).trans rfl; have hcz39_12 : w38.cell? ⟨gb164, 12, none⟩ = some (.int .i64 a0_12) := (blk_cell BK164.out 12).trans rfl; have hcz39_13 : w38.cell? ⟨gb164, 13, none⟩ = some (.int .i64 a0_13) := (blk_cell BK164.out 13).trans rfl; have hcz39_14 : w38.cell? ⟨gb164, 14, none⟩ = some (.int .i64 a0_14) := (blk_cell BK164.out 14).trans rfl; have hfz39_0 := blk_frozen BK164.out 0; have hfz39_1 := blk_frozen BK164.out 1; have hfz39_2 := blk_frozen BK164.out 2; have hfz39_3 := blk_frozen BK164.out 3; have hfz39_4 := blk_frozen BK164.out 4; have hfz39_5 := blk_frozen BK164.out 5; have hfz39_6 := blk_frozen BK164.out 6; have hfz39_7 := blk_frozen BK164.out 7; have hfz39_8 := blk_frozen BK164.out 8; have hfz39_9 := blk_frozen BK164.out 9; have hfz39_10 := blk_frozen BK164.out 10; have hfz39_11 := blk_frozen BK164.out 11; have hfz39_12 := blk_frozen BK164.out 12; have hfz39_13 := blk_frozen BK164.out 13; have hfz39_14 := blk_frozen BK164.out 14) | ((with_reducible refine gate_callee (f := 47) rfl ?_); refine goesL_ (some 22) rfl rfl Try.func47 (by kernel_rfl) rfl #[.agg #[.int .i64 a0_2, .int .i64 a0_3, .int .i64 a0_4, .int .i64 a0_5], .int .i64 a1, .int .i64 a2] rfl (by (try simp only [List.map_toArray, List.map_cons, List.map_nil]); first | done | rfl | (simp only [List.length_drop, List.length_take]; rfl)) ?_; (with_reducible refine (decoupageref02_Holds.calls a0_2 a0_3 a0_4 a0_5 a1 a2 true _ A29.out).mono ?_); rintro e w40 ⟨rfl, hb⟩; refine ⟨_, rfl, ?_⟩; have n0_ := Aside0.mk (blk_below (g := gb164) (o := .cells #[.int .i64 a0_0, .int .i64 a0_1, .int .i64 a0_2, .int .i64 a0_3, .int .i64 a0_4, .int .i64 a0_5, .int .i64 a0_6, .int .i64 a0_7, .int .i64 a0_8, .int .i64 a0_9, .int .i64 a0_10, .int .i64 a0_11, .int .i64 a0_12, .int .i64 a0_13, .int .i64 a0_14] 39 (0, 0)) (by (with_reducible repeat (first | refine blk_drewN ?_ _ | refine blk_drew ?_ | refine blk_alloc ?_ _)); exact BK164.out) hb); have n1_ := Aside0.mk (below_step (by repeat (first | (with_reducible first | exact HB.out | apply below_alloc | apply pw_below_drewN | apply below_drew1 | refine below_set ?_ GE164.out) | exact HB.out)) hb); clear BK164; clear HB; have BK164 := n0_; have HB := n1_; clear n0_ n1_; (try clear hb); (try clear hb2); (try clear hk); (try clear hi); have hcz41_0 : w40.cell? ⟨gb164, 0, none⟩ = some (.int .i64 a0_0) := (blk_cell BK164.out 0).trans rfl; have hcz41_1 : w40.cell? ⟨gb164, 1, none⟩ = some (.int .i64 a0_1) := (blk_cell BK164.out 1).trans rfl; have hcz41_2 : w40.cell? ⟨gb164, 2, none⟩ = some (.int .i64 a0_2) := (blk_cell BK164.out 2).trans rfl; have hcz41_3 : w40.cell? ⟨gb164, 3, none⟩ = some (.int .i64 a0_3) := (blk_cell BK164.out 3).trans rfl; have hcz41_4 : w40.cell? ⟨gb164, 4, none⟩ = some (.int .i64 a0_4) := (blk_cell BK164.out 4).trans rfl; have hcz41_5 : w40.cell? ⟨gb164, 5, none⟩ = some (.int .i64 a0_5) := (blk_cell BK164.out 5).trans rfl; have hcz41_6 : w40.cell? ⟨gb164, 6, none⟩ = some (.int .i64 a0_6) := (blk_cell BK164.out 6).trans rfl; have hcz41_7 : w40.cell? ⟨gb164, 7, none⟩ = some (.int .i64 a0_7) := (blk_cell BK164.out 7).trans rfl; have hcz41_8 : w40.cell? ⟨gb164, 8, none⟩ = some (.int .i64 a0_8) := (blk_cell BK164.out 8).trans rfl; have hcz41_9 : w40.cell? ⟨gb164, 9, none⟩ = some (.int .i64 a0_9) := (blk_cell BK164.out 9).trans rfl; have hcz41_10 : w40.cell? ⟨gb164, 10, none⟩ = some (.int .i64 a0_10) := (blk_cell BK164.out 10).trans rfl; have hcz41_11 : w40.cell? ⟨gb164, 11, none⟩ = some (.int .i64 a0_11) := (blk_cell BK164.out 11).trans rfl; have hcz41_12 : w40.cell? ⟨gb164, 12, none⟩ = some (.int .i64 a0_12) := (blk_cell BK164.out 12).trans rfl; have hcz41_13 : w40.cell? ⟨gb164, 13, none⟩ = some (.int .i64 a0_13) := (blk_cell BK164.out 13).trans rfl; have hcz41_14 : w40.cell? ⟨gb164, 14, none⟩ = some (.int .i64 a0_14) := (blk_cell BK164.out 14).trans rfl; have hfz41_0 := blk_frozen BK164.out 0; have hfz41_1 := blk_frozen BK164.out 1; have hfz41_2 := blk_frozen BK164.out 2; have hfz41_3 := blk_frozen BK164.out 3; have hfz41_4 := blk_frozen BK164.out 4; have hfz41_5 := blk_frozen BK164.out 5; have hfz41_6 := blk_frozen BK164.out 6; have hfz41_7 := blk_frozen BK164.out 7; have hfz41_8 := blk_frozen BK164.out 8; have hfz41_9 := blk_frozen BK164.out 9; have hfz41_10 := blk_frozen BK164.out 10; have hfz41_11 := blk_frozen BK164.out 11; have hfz41_12 := blk_frozen BK164.out 12; have hfz41_13 := blk_frozen BK164.out 13; have hfz41_14 := blk_frozen BK164.out 14) | (go_at_call 47; (with_reducible refine (decoupageref02_Holds.calls a0_10 a0_11 a0_12 a0_13 a1 a2 false _ A31.out).mono ?_); rintro e w42 ⟨rfl, hb⟩; have n0_ := Aside0.mk (blk_below (g := gb164) (o := .cells #[.int .i64 a0_0, .int .i64 a0_1, .int .i64 a0_2, .int .i64 a0_3, .int .i64 a0_4, .int .i64 a0_5, .int .i64 a0_6, .int .i64 a0_7, .int .i64 a0_8, .int .i64 a0_9, .int .i64 a0_10, .int .i64 a0_11, .int .i64 a0_12, .int .i64 a0_13, .int .i64 a0_14] 39 (0, 0)) (by (with_reducible repeat (first | refine blk_drewN ?_ _ | refine blk_drew ?_ | refine blk_alloc ?_ _)); exact BK164.out) hb); have n1_ := Aside0.mk (below_step (by repeat (first | (with_reducible first | exact HB.out | apply below_alloc | apply pw_below_drewN | apply below_drew1 | refine below_set ?_ GE164.out) | exact HB.out)) hb); clear BK164; clear HB; have BK164 := n0_; have HB := n1_; clear n0_ n1_; (try clear hb); (try clear hb2); (try clear hk); (try clear hi)))
        go_ret
        exact ⟨by first | rfl | (simp [errW_none, errW_some] <;> rfl) | (simp [*, errW_none, errW_some] <;> rfl), by repeat (first | (with_reducible first | exact HB.out | apply below_alloc | apply pw_below_drewN | apply below_drew1 | refine below_set ?_ GE164.out) | exact HB.out)⟩
    · replace c30 := Bool.eq_false_iff.mpr c30
      subst c30
      have H1 : (some false) = some r := by rw [if_neg (show ¬ (false = true) by decide)] at H; exact H
      clear H
      have H := H1
      clear H1
      obtain rfl := Option.some.inj H
      go_enter Try.func48, Try.ntmps48
      go_wp2_with (first | ((with_reducible refine gate_dst (N := 3) rfl ?_); refine box_event ?hg (N := 3) ?hd (cs := #[.int .i64 a0_0, .int .i64 a0_1, .int .i64 a0_2, .int .i64 a0_3, .int .i64 a0_4, .int .i64 a0_5, .int .i64 a0_6, .int .i64 a0_7, .int .i64 a0_8, .int .i64 a0_9, .int .i64 a0_10, .int .i64 a0_11, .int .i64 a0_12, .int .i64 a0_13, .int .i64 a0_14]) (t := 39) ?hr ?_; (case hd => rfl); (case hg => rfl); (case hr => first | (go_simp; done) | (go_simp; rfl)); intro gb164 hg w43 hbox hb; have n0_ := Aside0.mk (below_step (by repeat (first | (with_reducible first | exact HB.out | apply below_alloc | apply pw_below_drewN | apply below_drew1) | exact HB.out)) hb); have n1_ := Aside0.mk (hbox); have n2_ := Aside0.mk ((by rw [hg]; exact (below_size (by repeat (first | (with_reducible first | exact HB.out | apply below_alloc | apply pw_below_drewN | apply below_drew1) | exact HB.out))) : w.heap.size ≤ gb164)); have n3_ := Aside0.mk ((by rw [hg]; exact (below_size (by repeat (first | (with_reducible first | exact HB.out | apply below_alloc | apply pw_below_drewN | apply below_drew1) | exact HB.out))) : w.heap.size ≤ gb164)); clear HB; have HB := n0_; have BK164 := n1_; have GW164 := n2_; have GE164 := n3_; clear n0_ n1_ n2_ n3_; clear hb hbox hg; have hcz44_0 : w43.cell? ⟨gb164, 0, none⟩ = some (.int .i64 a0_0) := (blk_cell BK164.out 0).trans rfl; have hcz44_1 : w43.cell? ⟨gb164, 1, none⟩ = some (.int .i64 a0_1) := (blk_cell BK164.out 1).trans rfl; have hcz44_2 : w43.cell? ⟨gb164, 2, none⟩ = some (.int .i64 a0_2) := (blk_cell BK164.out 2).trans rfl; have hcz44_3 : w43.cell? ⟨gb164, 3, none⟩ = some (.int .i64 a0_3) := (blk_cell BK164.out 3).trans rfl; have hcz44_4 : w43.cell? ⟨gb164, 4, none⟩ = some (.int .i64 a0_4) := (blk_cell BK164.out 4).trans rfl; have hcz44_5 : w43.cell? ⟨gb164, 5, none⟩ = some (.int .i64 a0_5) := (blk_cell BK164.out 5).trans rfl; have hcz44_6 : w43.cell? ⟨gb164, 6, none⟩ = some (.int .i64 a0_6) := (blk_cell BK164.out 6).trans rfl; have hcz44_7 : w43.cell? ⟨gb164, 7, none⟩ = some (.int .i64 a0_7) := (blk_cell BK164.out 7).trans rfl; have hcz44_8 : w43.cell? ⟨gb164, 8, none⟩ = some (.int .i64 a0_8) := (blk_cell BK164.out 8).trans rfl; have hcz44_9 : w43.cell? ⟨gb164, 9, none⟩ = some (.int .i64 a0_9) := (blk_cell BK164.out 9).trans rfl; have hcz44_10 : w43.cell? ⟨gb164, 10, none⟩ = some (.int .i64 a0_10) := (blk_cell BK164.out 10).trans rfl; have hcz44_11 : w43.cell? ⟨gb164, 11, none⟩ = some (.int .i64 a0_11) := (blk_cell BK164.out 11).trans rfl; have hcz44_12 : w43.cell? ⟨gb164, 12, none⟩ = some (.int .i64 a0_12) := (blk_cell BK164.out 12).trans rfl; have hcz44_13 : w43.cell? ⟨gb164, 13, none⟩ = some (.int .i64 a0_13) := (blk_cell BK164.out 13).trans rfl; have hcz44_14 : w43.cell? ⟨gb164, 14, none⟩ = some (.int .i64 a0_14) := (blk_cell BK164.out 14).trans rfl; have hfz44_0 := blk_frozen BK164.out 0; have hfz44_1 := blk_frozen BK164.out 1; have hfz44_2 := blk_frozen BK164.out 2; have hfz44_3 := blk_frozen BK164.out 3; have hfz44_4 := blk_frozen BK164.out 4; have hfz44_5 := blk_frozen BK164.out 5; have hfz44_6 := blk_frozen BK164.out 6; have hfz44_7 := blk_frozen BK164.out 7; have hfz44_8 := blk_frozen BK164.out 8; have hfz44_9 := blk_frozen BK164.out 9; have hfz44_10 := blk_frozen BK164.out 10; have hfz44_11 := blk_frozen BK164.out 11; have hfz44_12 := blk_frozen BK164.out 12; have hfz44_13 := blk_frozen BK164.out 13; have hfz44_14 := blk_frozen BK164.out 14) | ((with_reducible refine gate_callee (f := 47) rfl ?_); refine goesL_ (some 22) rfl rfl Try.func47 (by kernel_rfl) rfl #[.agg #[.int .i64 a0_2, .int .i64 a0_3, .int .i64 a0_4, .int .i64 a0_5], .int .i64 a1, .int .i64 a2] rfl (by (try simp only [List.map_toArray, List.map_cons, List.map_nil]); first | done | rfl | (simp only [List.length_drop, List.length_take]; rfl)) ?_; (with_reducible refine (decoupageref02_Holds.calls a0_2 a0_3 a0_4 a0_5 a1 a2 false _ A29.out).mono ?_); rintro e w45 ⟨rfl, hb⟩; refine ⟨_, rfl, ?_⟩; have n0_ := Aside0.mk (blk_below (g := gb164) (o := .cells #[.int .i64 a0_0, .int .i64 a0_1, .int .i64 a0_2, .int .i64 a0_3, .int .i64 a0_4, .int .i64 a0_5, .int .i64 a0_6, .int .i64 a0_7, .int .i64 a0_8, .int .i64 a0_9, .int .i64 a0_10, .int .i64 a0_11, .int .i64 a0_12, .int .i64 a0_13, .int .i64 a0_14] 39 (0, 0)) (by (with_reducible repeat (first | refine blk_drewN ?_ _ | refine blk_drew ?_ | refine blk_alloc ?_ _)); exact BK164.out) hb); have n1_ := Aside0.mk (below_step (by repeat (first | (with_reducible first | exact HB.out | apply below_alloc | apply pw_below_drewN | apply below_drew1 | refine below_set ?_ GE164.out) | exact HB.out)) hb); clear BK164; clear HB; have BK164 := n0_; have HB := n1_; clear n0_ n1_; (try clear hb); (try clear hb2); (try clear hk); (try clear hi)))
      go_ret
      exact ⟨by first | rfl | (simp [errW_none, errW_some] <;> rfl) | (simp [*, errW_none, errW_some] <;> rfl), by repeat (first | (with_reducible first | exact HB.out | apply below_alloc | apply pw_below_drewN | apply below_drew1 | refine below_set ?_ GE164.out) | exact HB.out)⟩

/-! ### decoupageref26_Owner: function 22 -/
def decoupageref26_Owner.l0 : Nat → List (S39) → Int → Int → Int → Int → Int → Option (Int)
  | 0, _, _, _, _, _, _ => none
  | k + 1, x0, x1, x2, x7, x10, x11 => if x11 < x10 then (if 0 ≤ x11 then (if x11 < (x0.length : Int) then ((decoupageref26_Shows.f ((rd_T39 x0 x11).f0) ((rd_T39 x0 x11).f1) ((rd_T39 x0 x11).f2.f0) ((rd_T39 x0 x11).f2.f1) ((rd_T39 x0 x11).f2.f2) ((rd_T39 x0 x11).f2.f3) ((rd_T39 x0 x11).f3.f0) ((rd_T39 x0 x11).f3.f1) ((rd_T39 x0 x11).f3.f2) ((rd_T39 x0 x11).f3.f3) ((rd_T39 x0 x11).f4.f0) ((rd_T39 x0 x11).f4.f1) ((rd_T39 x0 x11).f4.f2) ((rd_T39 x0 x11).f4.f3) ((rd_T39 x0 x11).f5) x1 x2).bind fun t171 => (if t171 = true then (decoupageref26_Owner.l0 k x0 x1 x2 x11 x10 (wrap64 (x11 + 1))) else (decoupageref26_Owner.l0 k x0 x1 x2 x7 x10 (wrap64 (x11 + 1))))) else (none)) else (none)) else (some x7)
def decoupageref26_Owner.f (k : Nat) (l0 : List (S39)) (a1 : Int) (a2 : Int) : Option (Int) := decoupageref26_Owner.l0 k l0 a1 a2 (-1) (l0.length : Int) 0
theorem decoupageref26_Owner.mono_l : ∀ k, (∀ y0 y1 y2 y3 y4 y5, LeO (decoupageref26_Owner.l0 k y0 y1 y2 y3 y4 y5) (decoupageref26_Owner.l0 (k + 1) y0 y1 y2 y3 y4 y5))
  | 0 => fun _ _ _ _ _ _ r h => by simp [decoupageref26_Owner.l0] at h
  | k + 1 => by
    have ih0 := decoupageref26_Owner.mono_l k
    · intro y0 y1 y2 y3 y4 y5
      unfold decoupageref26_Owner.l0
      repeat' first
      | (with_reducible exact ih0 _ _ _ _ _ _)
      | (with_reducible exact LeO.refl _)
      | (with_reducible exact LeO.none _)
      | (with_reducible refine LeO.ite ?_ ?_)
      | (with_reducible refine LeO.bind ?_ (fun _ => ?_))
      | exact ih0 _ _ _ _ _ _
      | exact LeO.none _
      | refine LeO.ite ?_ ?_
      | refine LeO.bind ?_ (fun _ => ?_)
theorem decoupageref26_Owner.mono : ∀ a0 a1 a2 k, LeO (decoupageref26_Owner.f k a0 a1 a2) (decoupageref26_Owner.f (k + 1) a0 a1 a2) := by
  intro a0 a1 a2 k
  have ih0 := decoupageref26_Owner.mono_l k
  unfold decoupageref26_Owner.f
  repeat' first
      | (with_reducible exact ih0 _ _ _ _ _ _)
      | (with_reducible exact LeO.refl _)
      | (with_reducible exact LeO.none _)
      | (with_reducible refine LeO.ite ?_ ?_)
      | (with_reducible refine LeO.bind ?_ (fun _ => ?_))
      | exact ih0 _ _ _ _ _ _
      | exact LeO.none _
      | refine LeO.ite ?_ ?_
      | refine LeO.bind ?_ (fun _ => ?_)
set_option maxHeartbeats 8000000 in
set_option maxRecDepth 100000 in
theorem decoupageref26_Owner.calls (k : Nat) (A0 : Option Addr) (c0 : Nat) (l0 : List (S39)) (a1 : Int) (a2 : Int) (r : Int) (w : World) (hr0 : Kd.C k39 w A0 l0.length l0) (hc0 : l0.length ≤ c0) (h : decoupageref26_Owner.f k l0 a1 a2 = some r) :
    Calls Try.prog 22 #[.slice A0 l0.length c0, .int .i64 a1, .int .i64 a2] w fun e w' => e = .returned (.int .i64 r) ∧ Below w.heap.size w w' := by
  have hu39 := Try.underlying39
  have HR0 := Aside0.mk hr0
  have HC0 := Aside0.mk hc0
  clear hr0 hc0
  have HB := Aside0.mk (Below.refl w.heap.size w)
  have H : (decoupageref26_Owner.l0 k l0 a1 a2 (-1) (l0.length : Int) 0) = some r := h
  clear h
  have H' := Aside0.mk H
  clear H
  go_enter Try.func22, Try.ntmps22
  go_wp2
  go_loopg [7, 11] k (fun kq v7 v11 w' => ∃ (x7_1 : Int) (x11_1 : Int), v7 = .int .i64 x7_1 ∧ v11 = .int .i64 x11_1 ∧ Aside0 (decoupageref26_Owner.l0 kq l0 a1 a2 x7_1 (l0.length : Int) x11_1 = some r) ∧ Aside0 (kq ≤ k) ∧ Aside0 (Below w.heap.size w w'))
  case atStart => exact ⟨((-1)), (0), (by first | rfl | (simp; done) | (simp [*]; done)), (by first | rfl | (simp; done) | (simp [*]; done)), H', ⟨Nat.le_refl _⟩, ⟨by repeat (first | (with_reducible first | exact HB.out | apply below_alloc | apply pw_below_drewN | apply below_drew1) | exact HB.out)⟩⟩
  case round =>
    clear H'
    try clear c2
    try clear p2
    obtain ⟨x7_1, x11_1, rfl, rfl, HA, HK1, HB⟩ := hrel
    cases gk with
    | zero => exact absurd HA.out (by simp [decoupageref26_Owner.l0])
    | succ k1 =>
      have H := HA.out
      clear HA
      simp only [decoupageref26_Owner.l0] at H
      by_cases c4 : x11_1 < (l0.length : Int)
      · rw [if_pos c4] at H
        have c4b0 : decide (x11_1 < (l0.length : Int)) = true := decide_eq_true c4
        clear c4
        by_cases c5 : 0 ≤ x11_1
        · rw [if_pos c5] at H
          have c5b0 : decide (0 ≤ x11_1) = true := decide_eq_true c5
          clear c5
          by_cases c6 : x11_1 < (l0.length : Int)
          · rw [if_pos c6] at H
            have c6b0 : decide (x11_1 < (l0.length : Int)) = true := decide_eq_true c6
            clear c6
            replace H := Option.bind_eq_some_iff.mp H
            obtain ⟨t171, A70, H⟩ := H
            replace H : (if t171 = true then (decoupageref26_Owner.l0 k1 l0 a1 a2 x11_1 (l0.length : Int) (wrap64 (x11_1 + 1))) else (decoupageref26_Owner.l0 k1 l0 a1 a2 x7_1 (l0.length : Int) (wrap64 (x11_1 + 1)))) = some r := H
            have A7 := Aside0.mk A70
            clear A70
            by_cases c8 : t171 = true
            · subst c8
              have H1 : (decoupageref26_Owner.l0 k1 l0 a1 a2 x11_1 (l0.length : Int) (wrap64 (x11_1 + 1))) = some r := by rw [if_pos rfl] at H; exact H
              clear H
              have H := H1
              clear H1
              have H' := Aside0.mk H
              clear H
              have p170 : 0 ≤ (x11_1 : Int) := of_decide_eq_true (by first | (with_reducible assumption) | assumption)
              have q170 : x11_1 < (l0.length : Int) := of_decide_eq_true (by first | (with_reducible assumption) | assumption)
              obtain ⟨ad170, e170, hx170_0, hx170_1, hx170_2, hx170_3, hx170_4, hx170_5, hx170_6, hx170_7, hx170_8, hx170_9, hx170_10, hx170_11, hx170_12, hx170_13, hx170_14⟩ := at_T39 HR0.out x11_1 p170 q170
              cases e170
              replace hx170_0 := (HB.out.cell (World.block_lt_of_cell? w _ hx170_0)).trans hx170_0
              replace hx170_1 := (HB.out.cell (World.block_lt_of_cell? w _ hx170_1)).trans hx170_1
              replace hx170_2 := (HB.out.cell (World.block_lt_of_cell? w _ hx170_2)).trans hx170_2
              replace hx170_3 := (HB.out.cell (World.block_lt_of_cell? w _ hx170_3)).trans hx170_3
              replace hx170_4 := (HB.out.cell (World.block_lt_of_cell? w _ hx170_4)).trans hx170_4
              replace hx170_5 := (HB.out.cell (World.block_lt_of_cell? w _ hx170_5)).trans hx170_5
              replace hx170_6 := (HB.out.cell (World.block_lt_of_cell? w _ hx170_6)).trans hx170_6
              replace hx170_7 := (HB.out.cell (World.block_lt_of_cell? w _ hx170_7)).trans hx170_7
              replace hx170_8 := (HB.out.cell (World.block_lt_of_cell? w _ hx170_8)).trans hx170_8
              replace hx170_9 := (HB.out.cell (World.block_lt_of_cell? w _ hx170_9)).trans hx170_9
              replace hx170_10 := (HB.out.cell (World.block_lt_of_cell? w _ hx170_10)).trans hx170_10
              replace hx170_11 := (HB.out.cell (World.block_lt_of_cell? w _ hx170_11)).trans hx170_11
              replace hx170_12 := (HB.out.cell (World.block_lt_of_cell? w _ hx170_12)).trans hx170_12
              replace hx170_13 := (HB.out.cell (World.block_lt_of_cell? w _ hx170_13)).trans hx170_13
              replace hx170_14 := (HB.out.cell (World.block_lt_of_cell? w _ hx170_14)).trans hx170_14
              replace p170 := eq_true p170
              replace q170 := eq_true q170
              go_wp2_with (first | ((with_reducible refine gate_callee (f := 48) rfl ?_); refine goesL_ (some 20) rfl rfl Try.func48 (by kernel_rfl) rfl #[.agg #[.int .i64 ((rd_T39 l0 x11_1).f0), .int .i64 ((rd_T39 l0 x11_1).f1), .int .i64 ((rd_T39 l0 x11_1).f2.f0), .int .i64 ((rd_T39 l0 x11_1).f2.f1), .int .i64 ((rd_T39 l0 x11_1).f2.f2), .int .i64 ((rd_T39 l0 x11_1).f2.f3), .int .i64 ((rd_T39 l0 x11_1).f3.f0), .int .i64 ((rd_T39 l0 x11_1).f3.f1), .int .i64 ((rd_T39 l0 x11_1).f3.f2), .int .i64 ((rd_T39 l0 x11_1).f3.f3), .int .i64 ((rd_T39 l0 x11_1).f4.f0), .int .i64 ((rd_T39 l0 x11_1).f4.f1), .int .i64 ((rd_T39 l0 x11_1).f4.f2), .int .i64 ((rd_T39 l0 x11_1).f4.f3), .int .i64 ((rd_T39 l0 x11_1).f5)], .int .i64 a1, .int .i64 a2] rfl (by (try simp only [List.map_toArray, List.map_cons, List.map_nil]); first | done | rfl | (simp only [List.length_drop, List.length_take]; rfl)) ?_; (with_reducible refine (decoupageref26_Shows.calls ((rd_T39 l0 x11_1).f0) ((rd_T39 l0 x11_1).f1) ((rd_T39 l0 x11_1).f2.f0) ((rd_T39 l0 x11_1).f2.f1) ((rd_T39 l0 x11_1).f2.f2) ((rd_T39 l0 x11_1).f2.f3) ((rd_T39 l0 x11_1).f3.f0) ((rd_T39 l0 x11_1).f3.f1) ((rd_T39 l0 x11_1).f3.f2) ((rd_T39 l0 x11_1).f3.f3) ((rd_T39 l0 x11_1).f4.f0) ((rd_T39 l0 x11_1).f4.f1) ((rd_T39 l0 x11_1).f4.f2) ((rd_T39 l0 x11_1).f4.f3) ((rd_T39 l0 x11_1).f5) a1 a2 true _ A7.out).mono ?_); rintro e w9 ⟨rfl, hb⟩; refine ⟨_, rfl, ?_⟩; have n0_ := Aside0.mk (below_step (by repeat (first | (with_reducible first | exact HB.out | apply below_alloc | apply pw_below_drewN | apply below_drew1) | exact HB.out)) hb); clear HB; have HB := n0_; clear n0_; (try clear hb); (try clear hb2); (try clear hk); (try clear hi)))
              go_roundg k1
              case measure => have := HK1.out; omega
              case rel => exact ⟨(x11_1), (wrap64 (x11_1 + 1)), (by first | rfl | (simp; done) | (simp [*]; done)), (by first | rfl | (simp; done) | (simp [*]; done)), H', ⟨by have := HK1.out; omega⟩, ⟨by repeat (first | (with_reducible first | exact HB.out | apply below_alloc | apply pw_below_drewN | apply below_drew1) | exact HB.out)⟩⟩
            · replace c8 := Bool.eq_false_iff.mpr c8
              subst c8
              have H1 : (decoupageref26_Owner.l0 k1 l0 a1 a2 x7_1 (l0.length : Int) (wrap64 (x11_1 + 1))) = some r := by rw [if_neg (show ¬ (false = true) by decide)] at H; exact H
              clear H
              have H := H1
              clear H1
              have H' := Aside0.mk H
              clear H
              have p170 : 0 ≤ (x11_1 : Int) := of_decide_eq_true (by first | (with_reducible assumption) | assumption)
              have q170 : x11_1 < (l0.length : Int) := of_decide_eq_true (by first | (with_reducible assumption) | assumption)
              obtain ⟨ad170, e170, hx170_0, hx170_1, hx170_2, hx170_3, hx170_4, hx170_5, hx170_6, hx170_7, hx170_8, hx170_9, hx170_10, hx170_11, hx170_12, hx170_13, hx170_14⟩ := at_T39 HR0.out x11_1 p170 q170
              cases e170
              replace hx170_0 := (HB.out.cell (World.block_lt_of_cell? w _ hx170_0)).trans hx170_0
              replace hx170_1 := (HB.out.cell (World.block_lt_of_cell? w _ hx170_1)).trans hx170_1
              replace hx170_2 := (HB.out.cell (World.block_lt_of_cell? w _ hx170_2)).trans hx170_2
              replace hx170_3 := (HB.out.cell (World.block_lt_of_cell? w _ hx170_3)).trans hx170_3
              replace hx170_4 := (HB.out.cell (World.block_lt_of_cell? w _ hx170_4)).trans hx170_4
              replace hx170_5 := (HB.out.cell (World.block_lt_of_cell? w _ hx170_5)).trans hx170_5
              replace hx170_6 := (HB.out.cell (World.block_lt_of_cell? w _ hx170_6)).trans hx170_6
              replace hx170_7 := (HB.out.cell (World.block_lt_of_cell? w _ hx170_7)).trans hx170_7
              replace hx170_8 := (HB.out.cell (World.block_lt_of_cell? w _ hx170_8)).trans hx170_8
              replace hx170_9 := (HB.out.cell (World.block_lt_of_cell? w _ hx170_9)).trans hx170_9
              replace hx170_10 := (HB.out.cell (World.block_lt_of_cell? w _ hx170_10)).trans hx170_10
              replace hx170_11 := (HB.out.cell (World.block_lt_of_cell? w _ hx170_11)).trans hx170_11
              replace hx170_12 := (HB.out.cell (World.block_lt_of_cell? w _ hx170_12)).trans hx170_12
              replace hx170_13 := (HB.out.cell (World.block_lt_of_cell? w _ hx170_13)).trans hx170_13
              replace hx170_14 := (HB.out.cell (World.block_lt_of_cell? w _ hx170_14)).trans hx170_14
              replace p170 := eq_true p170
              replace q170 := eq_true q170
              go_wp2_with (first | ((with_reducible refine gate_callee (f := 48) rfl ?_); refine goesL_ (some 20) rfl rfl Try.func48 (by kernel_rfl) rfl #[.agg #[.int .i64 ((rd_T39 l0 x11_1).f0), .int .i64 ((rd_T39 l0 x11_1).f1), .int .i64 ((rd_T39 l0 x11_1).f2.f0), .int .i64 ((rd_T39 l0 x11_1).f2.f1), .int .i64 ((rd_T39 l0 x11_1).f2.f2), .int .i64 ((rd_T39 l0 x11_1).f2.f3), .int .i64 ((rd_T39 l0 x11_1).f3.f0), .int .i64 ((rd_T39 l0 x11_1).f3.f1), .int .i64 ((rd_T39 l0 x11_1).f3.f2), .int .i64 ((rd_T39 l0 x11_1).f3.f3), .int .i64 ((rd_T39 l0 x11_1).f4.f0), .int .i64 ((rd_T39 l0 x11_1).f4.f1), .int .i64 ((rd_T39 l0 x11_1).f4.f2), .int .i64 ((rd_T39 l0 x11_1).f4.f3), .int .i64 ((rd_T39 l0 x11_1).f5)], .int .i64 a1, .int .i64 a2] rfl (by (try simp only [List.map_toArray, List.map_cons, List.map_nil]); first | done | rfl | (simp only [List.length_drop, List.length_take]; rfl)) ?_; (with_reducible refine (decoupageref26_Shows.calls ((rd_T39 l0 x11_1).f0) ((rd_T39 l0 x11_1).f1) ((rd_T39 l0 x11_1).f2.f0) ((rd_T39 l0 x11_1).f2.f1) ((rd_T39 l0 x11_1).f2.f2) ((rd_T39 l0 x11_1).f2.f3) ((rd_T39 l0 x11_1).f3.f0) ((rd_T39 l0 x11_1).f3.f1) ((rd_T39 l0 x11_1).f3.f2) ((rd_T39 l0 x11_1).f3.f3) ((rd_T39 l0 x11_1).f4.f0) ((rd_T39 l0 x11_1).f4.f1) ((rd_T39 l0 x11_1).f4.f2) ((rd_T39 l0 x11_1).f4.f3) ((rd_T39 l0 x11_1).f5) a1 a2 false _ A7.out).mono ?_); rintro e w10 ⟨rfl, hb⟩; refine ⟨_, rfl, ?_⟩; have n0_ := Aside0.mk (below_step (by repeat (first | (with_reducible first | exact HB.out | apply below_alloc | apply pw_below_drewN | apply below_drew1) | exact HB.out)) hb); clear HB; have HB := n0_; clear n0_; (try clear hb); (try clear hb2); (try clear hk); (try clear hi)))
              go_roundg k1
              case measure => have := HK1.out; omega
              case rel => exact ⟨(x7_1), (wrap64 (x11_1 + 1)), (by first | rfl | (simp; done) | (simp [*]; done)), (by first | rfl | (simp; done) | (simp [*]; done)), H', ⟨by have := HK1.out; omega⟩, ⟨by repeat (first | (with_reducible first | exact HB.out | apply below_alloc | apply pw_below_drewN | apply below_drew1) | exact HB.out)⟩⟩
          · rw [if_neg c6] at H
            exact absurd H (by simp)
        · rw [if_neg c5] at H
          exact absurd H (by simp)
      · rw [if_neg c4] at H
        have c4b0 : decide (x11_1 < (l0.length : Int)) = false := decide_eq_false c4
        clear c4
        obtain rfl := Option.some.inj H
        go_wp2
        go_ret
        exact ⟨by first | rfl | (simp [errW_none, errW_some] <;> rfl) | (simp [*, errW_none, errW_some] <;> rfl), by repeat (first | (with_reducible first | exact HB.out | apply below_alloc | apply pw_below_drewN | apply below_drew1) | exact HB.out)⟩

/-! ### decoupageref26_Color: function 23 -/
def decoupageref26_Color.f (k : Nat) (l0 : List (S39)) (a1 : Int) (a2 : Int) : Option (Int) := (decoupageref26_Owner.f k l0 a1 a2).bind fun t172 => (if t172 < 0 then (some 0) else (if 0 ≤ t172 then (if t172 < (l0.length : Int) then (some ((rd_T39 l0 t172).f5)) else (none)) else (none)))
theorem decoupageref26_Color.mono : ∀ a0 a1 a2 k, LeO (decoupageref26_Color.f k a0 a1 a2) (decoupageref26_Color.f (k + 1) a0 a1 a2) := by
  intro a0 a1 a2 k
  unfold decoupageref26_Color.f
  repeat' first
      | (with_reducible exact decoupageref26_Owner.mono _ _ _ _)
      | (with_reducible exact LeO.refl _)
      | (with_reducible exact LeO.none _)
      | (with_reducible refine LeO.ite ?_ ?_)
      | (with_reducible refine LeO.bind ?_ (fun _ => ?_))
      | exact decoupageref26_Owner.mono _ _ _ _
      | exact LeO.none _
      | refine LeO.ite ?_ ?_
      | refine LeO.bind ?_ (fun _ => ?_)
set_option maxHeartbeats 8000000 in
set_option maxRecDepth 100000 in
theorem decoupageref26_Color.calls (k : Nat) (A0 : Option Addr) (c0 : Nat) (l0 : List (S39)) (a1 : Int) (a2 : Int) (r : Int) (w : World) (hr0 : Kd.C k39 w A0 l0.length l0) (hc0 : l0.length ≤ c0) (h : decoupageref26_Color.f k l0 a1 a2 = some r) :
    Calls Try.prog 23 #[.slice A0 l0.length c0, .int .i64 a1, .int .i64 a2] w fun e w' => e = .returned (.int .i64 r) ∧ Below w.heap.size w w' := by
  have HR0 := Aside0.mk hr0
  have HC0 := Aside0.mk hc0
  clear hr0 hc0
  have HB := Aside0.mk (Below.refl w.heap.size w)
  have H : ((decoupageref26_Owner.f k l0 a1 a2).bind fun t172 => (if t172 < 0 then (some 0) else (if 0 ≤ t172 then (if t172 < (l0.length : Int) then (some ((rd_T39 l0 t172).f5)) else (none)) else (none)))) = some r := h
  clear h
  replace H := Option.bind_eq_some_iff.mp H
  obtain ⟨t172, A40, H⟩ := H
  replace H : (if t172 < 0 then (some 0) else (if 0 ≤ t172 then (if t172 < (l0.length : Int) then (some ((rd_T39 l0 t172).f5)) else (none)) else (none))) = some r := H
  have A4 := Aside0.mk A40
  clear A40
  by_cases c5 : t172 < 0
  · rw [if_pos c5] at H
    have c5b0 : decide (t172 < 0) = true := decide_eq_true c5
    clear c5
    obtain rfl := Option.some.inj H
    go_enter Try.func23, Try.ntmps23
    go_wp2_with (first | ((with_reducible refine gate_callee (f := 22) rfl ?_); refine goesL_ (some 11) rfl rfl Try.func22 (by kernel_rfl) rfl #[.slice A0 l0.length c0, .int .i64 a1, .int .i64 a2] rfl (by (try simp only [List.map_toArray, List.map_cons, List.map_nil]); first | done | rfl | (simp only [List.length_drop, List.length_take]; rfl)) ?_; (with_reducible refine (decoupageref26_Owner.calls k _ _ l0 a1 a2 t172 _ ?side1 ?side2 A4.out).mono ?_); (case side1 => repeat (first | exact HR0.out | (with_reducible refine Kd.C_alloc ?_ _) | (with_reducible refine Kd.C_drewN ?_ _) | (with_reducible refine Kd.C_drew ?_))); (case side2 => exact HC0.out); rintro e w6 ⟨rfl, hb⟩; refine ⟨_, rfl, ?_⟩; have n0_ := Aside0.mk (below_step (by repeat (first | (with_reducible first | exact HB.out | apply below_alloc | apply pw_below_drewN | apply below_drew1) | exact HB.out)) hb); clear HB; have HB := n0_; clear n0_; (try clear hb); (try clear hb2); (try clear hk); (try clear hi)))
    go_ret
    exact ⟨by first | rfl | (simp [errW_none, errW_some] <;> rfl) | (simp [*, errW_none, errW_some] <;> rfl), by repeat (first | (with_reducible first | exact HB.out | apply below_alloc | apply pw_below_drewN | apply below_drew1) | exact HB.out)⟩
  · rw [if_neg c5] at H
    have c5b0 : decide (t172 < 0) = false := decide_eq_false c5
    clear c5
    by_cases c7 : 0 ≤ t172
    · rw [if_pos c7] at H
      have c7b0 : decide (0 ≤ t172) = true := decide_eq_true c7
      clear c7
      by_cases c8 : t172 < (l0.length : Int)
      · rw [if_pos c8] at H
        have c8b0 : decide (t172 < (l0.length : Int)) = true := decide_eq_true c8
        clear c8
        obtain rfl := Option.some.inj H
        go_enter Try.func23, Try.ntmps23
        go_wp2_with (first | ((with_reducible refine gate_callee (f := 22) rfl ?_); refine goesL_ (some 11) rfl rfl Try.func22 (by kernel_rfl) rfl #[.slice A0 l0.length c0, .int .i64 a1, .int .i64 a2] rfl (by (try simp only [List.map_toArray, List.map_cons, List.map_nil]); first | done | rfl | (simp only [List.length_drop, List.length_take]; rfl)) ?_; (with_reducible refine (decoupageref26_Owner.calls k _ _ l0 a1 a2 t172 _ ?side1 ?side2 A4.out).mono ?_); (case side1 => repeat (first | exact HR0.out | (with_reducible refine Kd.C_alloc ?_ _) | (with_reducible refine Kd.C_drewN ?_ _) | (with_reducible refine Kd.C_drew ?_))); (case side2 => exact HC0.out); rintro e w9 ⟨rfl, hb⟩; refine ⟨_, rfl, ?_⟩; have n0_ := Aside0.mk (below_step (by repeat (first | (with_reducible first | exact HB.out | apply below_alloc | apply pw_below_drewN | apply below_drew1) | exact HB.out)) hb); clear HB; have HB := n0_; clear n0_; (try clear hb); (try clear hb2); (try clear hk); (try clear hi); have p173 : 0 ≤ (t172 : Int) := of_decide_eq_true (by first | (with_reducible assumption) | assumption); have q173 : t172 < (l0.length : Int) := of_decide_eq_true (by first | (with_reducible assumption) | assumption); obtain ⟨ad173, e173, hx173_0, hx173_1, hx173_2, hx173_3, hx173_4, hx173_5, hx173_6, hx173_7, hx173_8, hx173_9, hx173_10, hx173_11, hx173_12, hx173_13, hx173_14⟩ := at_T39 HR0.out t172 p173 q173; cases e173; replace hx173_0 := (HB.out.cell (World.block_lt_of_cell? w _ hx173_0)).trans hx173_0; replace hx173_1 := (HB.out.cell (World.block_lt_of_cell? w _ hx173_1)).trans hx173_1; replace hx173_2 := (HB.out.cell (World.block_lt_of_cell? w _ hx173_2)).trans hx173_2; replace hx173_3 := (HB.out.cell (World.block_lt_of_cell? w _ hx173_3)).trans hx173_3; replace hx173_4 := (HB.out.cell (World.block_lt_of_cell? w _ hx173_4)).trans hx173_4; replace hx173_5 := (HB.out.cell (World.block_lt_of_cell? w _ hx173_5)).trans hx173_5; replace hx173_6 := (HB.out.cell (World.block_lt_of_cell? w _ hx173_6)).trans hx173_6; replace hx173_7 := (HB.out.cell (World.block_lt_of_cell? w _ hx173_7)).trans hx173_7; replace hx173_8 := (HB.out.cell (World.block_lt_of_cell? w _ hx173_8)).trans hx173_8; replace hx173_9 := (HB.out.cell (World.block_lt_of_cell? w _ hx173_9)).trans hx173_9; replace hx173_10 := (HB.out.cell (World.block_lt_of_cell? w _ hx173_10)).trans hx173_10; replace hx173_11 := (HB.out.cell (World.block_lt_of_cell? w _ hx173_11)).trans hx173_11; replace hx173_12 := (HB.out.cell (World.block_lt_of_cell? w _ hx173_12)).trans hx173_12; replace hx173_13 := (HB.out.cell (World.block_lt_of_cell? w _ hx173_13)).trans hx173_13; replace hx173_14 := (HB.out.cell (World.block_lt_of_cell? w _ hx173_14)).trans hx173_14; replace p173 := eq_true p173; replace q173 := eq_true q173))
        go_ret
        exact ⟨by first | rfl | (simp [errW_none, errW_some] <;> rfl) | (simp [*, errW_none, errW_some] <;> rfl), by repeat (first | (with_reducible first | exact HB.out | apply below_alloc | apply pw_below_drewN | apply below_drew1) | exact HB.out)⟩
      · rw [if_neg c8] at H
        exact absurd H (by simp)
    · rw [if_neg c7] at H
      exact absurd H (by simp)

/-! ### decoupageref28_Draw: function 29 -/
mutual
def decoupageref28_Draw.l0 : Nat → List (S39) → List Int → Int → Int → Int → Int → Int → Int → Int → Option (List Int)
  | 0, _, _, _, _, _, _, _, _, _ => none
  | k + 1, x0, x5, x9, x10, x175000, x175001, x175002, x175003, x175004 => if x10 < x9 then (decoupageref28_Draw.l1 k x0 x5 x10 x9 x10 x175003 0 x175000 x175001 x175002 x175003 x175004) else (some x5)
def decoupageref28_Draw.l1 : Nat → List (S39) → List Int → Int → Int → Int → Int → Int → Int → Int → Int → Int → Int → Option (List Int)
  | 0, _, _, _, _, _, _, _, _, _, _, _, _ => none
  | k + 1, x0, x5, x6, x9, x10, x14, x15, x175000, x175001, x175002, x175003, x175004 => if x15 < x14 then ((decoupageref26_Color.f k x0 (wrap64 (x175000 + (wrap64 (x15 * x175002)))) (wrap64 (x175001 + (wrap64 (x6 * x175002))))).bind fun t175 => (if x5.length < 17592186044416 then (decoupageref28_Draw.l1 k x0 (x5 ++ [t175]) x6 x9 x10 x14 (wrap64 (x15 + 1)) x175000 x175001 x175002 x175003 x175004) else (none))) else (decoupageref28_Draw.l0 k x0 x5 x9 (wrap64 (x10 + 1)) x175000 x175001 x175002 x175003 x175004)
end
def decoupageref28_Draw.f (k : Nat) (l0 : List (S39)) (a1_0 : Int) (a1_1 : Int) (a1_2 : Int) (a1_3 : Int) (a1_4 : Int) : Option (List Int) := decoupageref28_Draw.l0 k l0 ([] : List Int) a1_4 0 a1_0 a1_1 a1_2 a1_3 a1_4
theorem decoupageref28_Draw.mono_l : ∀ k, (∀ y0 y1 y2 y3 y4 y5 y6 y7 y8, LeO (decoupageref28_Draw.l0 k y0 y1 y2 y3 y4 y5 y6 y7 y8) (decoupageref28_Draw.l0 (k + 1) y0 y1 y2 y3 y4 y5 y6 y7 y8)) ∧ (∀ y0 y1 y2 y3 y4 y5 y6 y7 y8 y9 y10 y11, LeO (decoupageref28_Draw.l1 k y0 y1 y2 y3 y4 y5 y6 y7 y8 y9 y10 y11) (decoupageref28_Draw.l1 (k + 1) y0 y1 y2 y3 y4 y5 y6 y7 y8 y9 y10 y11))
  | 0 => ⟨fun _ _ _ _ _ _ _ _ _ r h => by simp [decoupageref28_Draw.l0] at h, fun _ _ _ _ _ _ _ _ _ _ _ _ r h => by simp [decoupageref28_Draw.l1] at h⟩
  | k + 1 => by
    obtain ⟨ih0, ih1⟩ := decoupageref28_Draw.mono_l k
    refine ⟨?_, ?_⟩
    · intro y0 y1 y2 y3 y4 y5 y6 y7 y8
      unfold decoupageref28_Draw.l0
      repeat' first
      | (with_reducible exact ih0 _ _ _ _ _ _ _ _ _)
      | (with_reducible exact ih1 _ _ _ _ _ _ _ _ _ _ _ _)
      | (with_reducible exact decoupageref26_Color.mono _ _ _ _)
      | (with_reducible exact LeO.refl _)
      | (with_reducible exact LeO.none _)
      | (with_reducible refine LeO.ite ?_ ?_)
      | (with_reducible refine LeO.bind ?_ (fun _ => ?_))
      | exact ih0 _ _ _ _ _ _ _ _ _
      | exact ih1 _ _ _ _ _ _ _ _ _ _ _ _
      | exact decoupageref26_Color.mono _ _ _ _
      | exact LeO.none _
      | refine LeO.ite ?_ ?_
      | refine LeO.bind ?_ (fun _ => ?_)
    · intro y0 y1 y2 y3 y4 y5 y6 y7 y8 y9 y10 y11
      unfold decoupageref28_Draw.l1
      repeat' first
      | (with_reducible exact ih0 _ _ _ _ _ _ _ _ _)
      | (with_reducible exact ih1 _ _ _ _ _ _ _ _ _ _ _ _)
      | (with_reducible exact decoupageref26_Color.mono _ _ _ _)
      | (with_reducible exact LeO.refl _)
      | (with_reducible exact LeO.none _)
      | (with_reducible refine LeO.ite ?_ ?_)
      | (with_reducible refine LeO.bind ?_ (fun _ => ?_))
      | exact ih0 _ _ _ _ _ _ _ _ _
      | exact ih1 _ _ _ _ _ _ _ _ _ _ _ _
      | exact decoupageref26_Color.mono _ _ _ _
      | exact LeO.none _
      | refine LeO.ite ?_ ?_
      | refine LeO.bind ?_ (fun _ => ?_)
theorem decoupageref28_Draw.mono : ∀ a0 a1 a2 a3 a4 a5 k, LeO (decoupageref28_Draw.f k a0 a1 a2 a3 a4 a5) (decoupageref28_Draw.f (k + 1) a0 a1 a2 a3 a4 a5) := by
  intro a0 a1 a2 a3 a4 a5 k
  obtain ⟨ih0, ih1⟩ := decoupageref28_Draw.mono_l k
  unfold decoupageref28_Draw.f
  repeat' first
      | (with_reducible exact ih0 _ _ _ _ _ _ _ _ _)
      | (with_reducible exact ih1 _ _ _ _ _ _ _ _ _ _ _ _)
      | (with_reducible exact decoupageref26_Color.mono _ _ _ _)
      | (with_reducible exact LeO.refl _)
      | (with_reducible exact LeO.none _)
      | (with_reducible refine LeO.ite ?_ ?_)
      | (with_reducible refine LeO.bind ?_ (fun _ => ?_))
      | exact ih0 _ _ _ _ _ _ _ _ _
      | exact ih1 _ _ _ _ _ _ _ _ _ _ _ _
      | exact decoupageref26_Color.mono _ _ _ _
      | exact LeO.none _
      | refine LeO.ite ?_ ?_
      | refine LeO.bind ?_ (fun _ => ?_)
set_option maxHeartbeats 8000000 in
set_option maxRecDepth 100000 in
theorem decoupageref28_Draw.calls (k : Nat) (A0 : Option Addr) (c0 : Nat) (l0 : List (S39)) (a1_0 : Int) (a1_1 : Int) (a1_2 : Int) (a1_3 : Int) (a1_4 : Int) (r : List Int) (w : World) (hr0 : Kd.C k39 w A0 l0.length l0) (hc0 : l0.length ≤ c0) (h : decoupageref28_Draw.f k l0 a1_0 a1_1 a1_2 a1_3 a1_4 = some r) :
    Calls Try.prog 29 #[.slice A0 l0.length c0, .agg #[.int .i64 a1_0, .int .i64 a1_1, .int .i64 a1_2, .int .i64 a1_3, .int .i64 a1_4]] w fun e w' => ∃ v0_ : Value, e = .returned (v0_) ∧ Kd.R (Kd.int .i64) 2 w' w.heap.size (fun _ => True) v0_ r ∧ Below w.heap.size w w' := by
  have hu46 := Try.underlying46
  have HR0 := Aside0.mk hr0
  have HC0 := Aside0.mk hc0
  clear hr0 hc0
  have HB := Aside0.mk (Below.refl w.heap.size w)
  have H : (decoupageref28_Draw.l0 k l0 ([] : List Int) a1_4 0 a1_0 a1_1 a1_2 a1_3 a1_4) = some r := h
  clear h
  have H' := Aside0.mk H
  clear H
  go_enter Try.func29, Try.ntmps29
  go_wp2_with (first | ((with_reducible refine gate_dst (N := 3) rfl ?_); refine box_event ?hg (N := 3) ?hd (cs := #[.int .i64 a1_0, .int .i64 a1_1, .int .i64 a1_2, .int .i64 a1_3, .int .i64 a1_4]) (t := 46) ?hr ?_; (case hd => rfl); (case hg => rfl); (case hr => first | (go_simp; done) | (go_simp; rfl)); intro gb174 hg w3 hbox hb; have n0_ := Aside0.mk (below_step (by repeat (first | (with_reducible first | exact HB.out | apply below_alloc | apply pw_below_drewN | apply below_drew1) | exact HB.out)) hb); have n1_ := Aside0.mk (hbox); have n2_ := Aside0.mk ((by rw [hg]; exact (below_size (by repeat (first | (with_reducible first | exact HB.out | apply below_alloc | apply pw_below_drewN | apply below_drew1) | exact HB.out))) : w.heap.size ≤ gb174)); have n3_ := Aside0.mk ((by rw [hg]; exact (below_size (by repeat (first | (with_reducible first | exact HB.out | apply below_alloc | apply pw_below_drewN | apply below_drew1) | exact HB.out))) : w.heap.size ≤ gb174)); clear HB; have HB := n0_; have BK174 := n1_; have GW174 := n2_; have GE174 := n3_; clear n0_ n1_ n2_ n3_; clear hb hbox hg; have hcz4_0 : w3.cell? ⟨gb174, 0, none⟩ = some (.int .i64 a1_0) := (blk_cell BK174.out 0).trans rfl; have hcz4_1 : w3.cell? ⟨gb174, 1, none⟩ = some (.int .i64 a1_1) := (blk_cell BK174.out 1).trans rfl; have hcz4_2 : w3.cell? ⟨gb174, 2, none⟩ = some (.int .i64 a1_2) := (blk_cell BK174.out 2).trans rfl; have hcz4_3 : w3.cell? ⟨gb174, 3, none⟩ = some (.int .i64 a1_3) := (blk_cell BK174.out 3).trans rfl; have hcz4_4 : w3.cell? ⟨gb174, 4, none⟩ = some (.int .i64 a1_4) := (blk_cell BK174.out 4).trans rfl; have hfz4_0 := blk_frozen BK174.out 0; have hfz4_1 := blk_frozen BK174.out 1; have hfz4_2 := blk_frozen BK174.out 2; have hfz4_3 := blk_frozen BK174.out 3; have hfz4_4 := blk_frozen BK174.out 4))
  go_loopg [5, 10] k (fun kq v5 v10 w' => ∃ (x5_1 : List Int) (x10_1 : Int), v10 = .int .i64 x10_1 ∧ Aside0 (decoupageref28_Draw.l0 kq l0 x5_1 a1_4 x10_1 a1_0 a1_1 a1_2 a1_3 a1_4 = some r) ∧ Aside0 (kq ≤ k) ∧ Aside0 (Kd.R (Kd.int .i64) 2 w' w.heap.size (fun _ => True) v5 x5_1) ∧ Aside0 (w'.heap[gb174]? = some (.cells #[.int .i64 a1_0, .int .i64 a1_1, .int .i64 a1_2, .int .i64 a1_3, .int .i64 a1_4] 46 (0, 0))) ∧ Aside0 (Below w.heap.size w w'))
  case atStart => exact ⟨(([] : List Int)), (0), (by first | rfl | (simp; done) | (simp [*]; done)), H', ⟨Nat.le_refl _⟩, ⟨by first | exact Kd.R_nil _ _ _ _ _ | exact Kd.N_nil _ _ _ _ _ | exact Kd.V_nil _ _ _ _ _ | exact Kd.Q_nil _ _ _ _ _ | exact Kd.S_nil _ _ _ _ _⟩, ⟨by (with_reducible repeat (first | refine blk_drewN ?_ _ | refine blk_drew ?_ | refine blk_alloc ?_ _)); exact BK174.out⟩, ⟨by repeat (first | (with_reducible first | exact HB.out | apply below_alloc | apply pw_below_drewN | apply below_drew1 | refine below_set ?_ GE174.out) | exact HB.out)⟩⟩
  case round =>
    clear H'
    try clear c2
    try clear p2
    try clear hcz4_0
    try clear hcz4_1
    try clear hcz4_2
    try clear hcz4_3
    try clear hcz4_4
    try clear hfz4_0
    try clear hfz4_1
    try clear hfz4_2
    try clear hfz4_3
    try clear hfz4_4
    obtain ⟨x5_1, x10_1, rfl, HA, HK1, HO_5, BK174, HB⟩ := hrel
    cases gk with
    | zero => exact absurd HA.out (by simp [decoupageref28_Draw.l0])
    | succ k1 =>
      have H := HA.out
      clear HA
      simp only [decoupageref28_Draw.l0] at H
      by_cases c5 : x10_1 < a1_4
      · rw [if_pos c5] at H
        have c5b0 : decide (x10_1 < a1_4) = true := decide_eq_true c5
        clear c5
        have H' := Aside0.mk H
        clear H
        have hcz6_0 : wr.cell? ⟨gb174, 0, none⟩ = some (.int .i64 a1_0) := (blk_cell BK174.out 0).trans rfl
        have hcz6_1 : wr.cell? ⟨gb174, 1, none⟩ = some (.int .i64 a1_1) := (blk_cell BK174.out 1).trans rfl
        have hcz6_2 : wr.cell? ⟨gb174, 2, none⟩ = some (.int .i64 a1_2) := (blk_cell BK174.out 2).trans rfl
        have hcz6_3 : wr.cell? ⟨gb174, 3, none⟩ = some (.int .i64 a1_3) := (blk_cell BK174.out 3).trans rfl
        have hcz6_4 : wr.cell? ⟨gb174, 4, none⟩ = some (.int .i64 a1_4) := (blk_cell BK174.out 4).trans rfl
        have hfz6_0 := blk_frozen BK174.out 0
        have hfz6_1 := blk_frozen BK174.out 1
        have hfz6_2 := blk_frozen BK174.out 2
        have hfz6_3 := blk_frozen BK174.out 3
        have hfz6_4 := blk_frozen BK174.out 4
        go_wp2
        go_loopg [5, 15] k1 (fun kq v5 v15 w' => ∃ (x5_2 : List Int) (x15_2 : Int), v15 = .int .i64 x15_2 ∧ Aside0 (decoupageref28_Draw.l1 kq l0 x5_2 x10_1 a1_4 x10_1 a1_3 x15_2 a1_0 a1_1 a1_2 a1_3 a1_4 = some r) ∧ Aside0 (kq ≤ k1) ∧ Aside0 (Kd.R (Kd.int .i64) 2 w' w.heap.size (fun _ => True) v5 x5_2) ∧ Aside0 (w'.heap[gb174]? = some (.cells #[.int .i64 a1_0, .int .i64 a1_1, .int .i64 a1_2, .int .i64 a1_3, .int .i64 a1_4] 46 (0, 0))) ∧ Aside0 (Below w.heap.size w w'))
        case atStart => exact ⟨(x5_1), (0), (by first | rfl | (simp; done) | (simp [*]; done)), H', ⟨Nat.le_refl _⟩, ⟨by (with_reducible repeat (first | apply Kd.R_alloc | apply Kd.R_drewN | apply Kd.R_drew)); exact HO_5.out⟩, ⟨by (with_reducible repeat (first | refine blk_drewN ?_ _ | refine blk_drew ?_ | refine blk_alloc ?_ _)); exact BK174.out⟩, ⟨by repeat (first | (with_reducible first | exact HB.out | apply below_alloc | apply pw_below_drewN | apply below_drew1 | refine below_set ?_ GE174.out) | exact HB.out)⟩⟩
        case round =>
          clear H'
          try clear c2
          try clear p2
          try clear c5
          try clear c5b0
          try clear hcz4_0
          try clear hcz4_1
          try clear hcz4_2
          try clear hcz4_3
          try clear hcz4_4
          try clear hcz6_0
          try clear hcz6_1
          try clear hcz6_2
          try clear hcz6_3
          try clear hcz6_4
          try clear hfz4_0
          try clear hfz4_1
          try clear hfz4_2
          try clear hfz4_3
          try clear hfz4_4
          try clear hfz6_0
          try clear hfz6_1
          try clear hfz6_2
          try clear hfz6_3
          try clear hfz6_4
          try clear p2
          obtain ⟨x5_2, x15_2, rfl, HA, HK2, HO_5, BK174, HB⟩ := hrel
          cases gk with
          | zero => exact absurd HA.out (by simp [decoupageref28_Draw.l1])
          | succ k2 =>
            have H := HA.out
            clear HA
            simp only [decoupageref28_Draw.l1] at H
            by_cases c7 : x15_2 < a1_3
            · rw [if_pos c7] at H
              have c7b0 : decide (x15_2 < a1_3) = true := decide_eq_true c7
              clear c7
              replace H := Option.bind_eq_some_iff.mp H
              obtain ⟨t175, A80, H⟩ := H
              replace H : (if x5_2.length < 17592186044416 then (decoupageref28_Draw.l1 k2 l0 (x5_2 ++ [t175]) x10_1 a1_4 x10_1 a1_3 (wrap64 (x15_2 + 1)) a1_0 a1_1 a1_2 a1_3 a1_4) else (none)) = some r := H
              have A8 := Aside0.mk A80
              clear A80
              by_cases c9 : x5_2.length < 17592186044416
              · rw [if_pos c9] at H
                have LMc9 := Aside0.mk c9
                clear c9
                obtain ⟨y176, hy176⟩ : ∃ y_ : List Int, y_ = (x5_2 ++ [t175]) := ⟨_, rfl⟩
                replace H : (decoupageref28_Draw.l1 k2 l0 y176 x10_1 a1_4 x10_1 a1_3 (wrap64 (x15_2 + 1)) a1_0 a1_1 a1_2 a1_3 a1_4) = some r := by first | (rw [hy176]; with_reducible exact H) | (have H2_ := (Option.bind_some _ _).symm.trans H; rw [hy176]; with_reducible exact H2_) | (have H2_ := (Option.bind_some _ _).symm.trans H; with_reducible exact H2_) | with_reducible exact H | (rw [hy176]; exact H) | exact H
                have Ny176 := Aside0.mk hy176
                clear hy176
                have H' := Aside0.mk H
                clear H
                have hcz10_0 : wr.cell? ⟨gb174, 0, none⟩ = some (.int .i64 a1_0) := (blk_cell BK174.out 0).trans rfl
                have hcz10_1 : wr.cell? ⟨gb174, 1, none⟩ = some (.int .i64 a1_1) := (blk_cell BK174.out 1).trans rfl
                have hcz10_2 : wr.cell? ⟨gb174, 2, none⟩ = some (.int .i64 a1_2) := (blk_cell BK174.out 2).trans rfl
                have hcz10_3 : wr.cell? ⟨gb174, 3, none⟩ = some (.int .i64 a1_3) := (blk_cell BK174.out 3).trans rfl
                have hcz10_4 : wr.cell? ⟨gb174, 4, none⟩ = some (.int .i64 a1_4) := (blk_cell BK174.out 4).trans rfl
                have hfz10_0 := blk_frozen BK174.out 0
                have hfz10_1 := blk_frozen BK174.out 1
                have hfz10_2 := blk_frozen BK174.out 2
                have hfz10_3 := blk_frozen BK174.out 3
                have hfz10_4 := blk_frozen BK174.out 4
                go_wp2_with (first | ((with_reducible refine gate_callee (f := 23) rfl ?_); refine goesL_ (some 34) rfl rfl Try.func23 (by kernel_rfl) rfl #[.slice A0 l0.length c0, .int .i64 (wrap64 (a1_0 + (wrap64 (x15_2 * a1_2)))), .int .i64 (wrap64 (a1_1 + (wrap64 (x10_1 * a1_2))))] rfl (by (try simp only [List.map_toArray, List.map_cons, List.map_nil]); first | done | rfl | (simp only [List.length_drop, List.length_take]; rfl)) ?_; (with_reducible refine (decoupageref26_Color.calls k2 _ _ l0 (wrap64 (a1_0 + (wrap64 (x15_2 * a1_2)))) (wrap64 (a1_1 + (wrap64 (x10_1 * a1_2)))) t175 _ ?side1 ?side2 A8.out).mono ?_); (case side1 => repeat (first | exact (Kd.C_below HR0.out HB.out) | (with_reducible refine Kd.C_alloc ?_ _) | (with_reducible refine Kd.C_drewN ?_ _) | (with_reducible refine Kd.C_drew ?_))); (case side2 => exact HC0.out); rintro e w11 ⟨rfl, hb⟩; refine ⟨_, rfl, ?_⟩; have n0_ := Aside0.mk (Kd.R_below (by (with_reducible repeat (first | apply Kd.R_alloc | apply Kd.R_drewN | apply Kd.R_drew)); exact HO_5.out) hb); have n1_ := Aside0.mk (blk_below (g := gb174) (o := .cells #[.int .i64 a1_0, .int .i64 a1_1, .int .i64 a1_2, .int .i64 a1_3, .int .i64 a1_4] 46 (0, 0)) (by (with_reducible repeat (first | refine blk_drewN ?_ _ | refine blk_drew ?_ | refine blk_alloc ?_ _)); exact BK174.out) hb); have n2_ := Aside0.mk (below_step (by repeat (first | (with_reducible first | exact HB.out | apply below_alloc | apply pw_below_drewN | apply below_drew1 | refine below_set ?_ GE174.out) | exact HB.out)) hb); clear HO_5; clear BK174; clear HB; have HO_5 := n0_; have BK174 := n1_; have HB := n2_; clear n0_ n1_ n2_; (try clear hb); (try clear hb2); (try clear hk); (try clear hi)) | ((with_reducible refine gate_builtin (b := .append) (xs := #[.tmp 18, .tmp 35]) rfl ?_); at_builtin; refine Kd.R_append (Kd.int .i64) (w0 := w) w.heap.size rfl (.tmp 18) (.tmp 35) 47 2 (.int .i64 0) 8 rfl Try.underlying47 info2 rfl (by decide) (by omega) u5 x5_2 t175 [.int .i64 t175] (fun _ => True) (fun _ => False) rfl rfl ?aP (fun _ hk => hk.elim) ?aF ?aO ?aB ?aS ?aL ?_; (case aP => exact rfl); (case aB => exact (by repeat (first | (with_reducible first | exact HB.out | apply below_alloc | apply pw_below_drewN | apply below_drew1 | refine below_set ?_ GE174.out) | exact HB.out))); (case aF => exact (fun _ _ => trivial)); (case aO => exact (by (with_reducible repeat (first | apply Kd.R_alloc | apply Kd.R_drewN | apply Kd.R_drew)); exact HO_5.out)); (case aS => exact (below_size (by repeat (first | (with_reducible first | exact HB.out | apply below_alloc | apply pw_below_drewN | apply below_drew1 | refine below_set ?_ GE174.out) | exact HB.out)))); (case aL => have := LMc9.out; omega); intro v177 w12 ho hb hg hat; rw [← Ny176.out] at ho; have n0_ := Aside0.mk (blk_grown (g := gb174) (o := .cells #[.int .i64 a1_0, .int .i64 a1_1, .int .i64 a1_2, .int .i64 a1_3, .int .i64 a1_4] 46 (0, 0)) (by (with_reducible repeat (first | refine blk_drewN ?_ _ | refine blk_drew ?_ | refine blk_alloc ?_ _)); exact BK174.out) hg (Kd.R_ne HO_5.out BK174.out (by decide))); have n1_ := Aside0.mk (hb); have n2_ := Aside0.mk (ho); clear BK174; clear HB; clear HO_5; have BK174 := n0_; have HB := n1_; have HO178 := n2_; clear n0_ n1_ n2_; clear ho hb hg hat))
                go_roundg k2
                case measure => have := HK1.out; have := HK2.out; omega
                case rel => exact ⟨(y176), (wrap64 (x15_2 + 1)), (by first | rfl | (simp; done) | (simp [*]; done)), H', ⟨by have := HK1.out; have := HK2.out; omega⟩, ⟨by (with_reducible repeat (first | apply Kd.R_alloc | apply Kd.R_drewN | apply Kd.R_drew)); exact HO178.out⟩, ⟨by (with_reducible repeat (first | refine blk_drewN ?_ _ | refine blk_drew ?_ | refine blk_alloc ?_ _)); exact BK174.out⟩, ⟨by repeat (first | (with_reducible first | exact HB.out | apply below_alloc | apply pw_below_drewN | apply below_drew1 | refine below_set ?_ GE174.out) | exact HB.out)⟩⟩
              · rw [if_neg c9] at H
                exact absurd H (by simp)
            · rw [if_neg c7] at H
              have c7b0 : decide (x15_2 < a1_3) = false := decide_eq_false c7
              clear c7
              have H' := Aside0.mk H
              clear H
              go_wp2
              go_roundg k2
              case measure => have := HK1.out; have := HK2.out; omega
              case rel => exact ⟨(x5_2), (wrap64 (x10_1 + 1)), (by first | rfl | (simp; done) | (simp [*]; done)), H', ⟨by have := HK1.out; have := HK2.out; omega⟩, ⟨by (with_reducible repeat (first | apply Kd.R_alloc | apply Kd.R_drewN | apply Kd.R_drew)); exact HO_5.out⟩, ⟨by (with_reducible repeat (first | refine blk_drewN ?_ _ | refine blk_drew ?_ | refine blk_alloc ?_ _)); exact BK174.out⟩, ⟨by repeat (first | (with_reducible first | exact HB.out | apply below_alloc | apply pw_below_drewN | apply below_drew1 | refine below_set ?_ GE174.out) | exact HB.out)⟩⟩
      · rw [if_neg c5] at H
        have c5b0 : decide (x10_1 < a1_4) = false := decide_eq_false c5
        clear c5
        obtain rfl := Option.some.inj H
        go_wp2
        go_ret
        exact ⟨_, by first | rfl | (simp [errW_none, errW_some] <;> rfl) | (simp [*, errW_none, errW_some] <;> rfl), by (with_reducible repeat (first | apply Kd.R_alloc | apply Kd.R_drewN | apply Kd.R_drew)); exact HO_5.out, by repeat (first | (with_reducible first | exact HB.out | apply below_alloc | apply pw_below_drewN | apply below_drew1 | refine below_set ?_ GE174.out) | exact HB.out)⟩

end Go.Proofs.Ytppklhfiajjhmaa.PRasterDraws
