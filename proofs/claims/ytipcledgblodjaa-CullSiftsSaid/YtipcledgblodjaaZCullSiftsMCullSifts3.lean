/- What is proved: contracts of functions that the law CullSifts reaches, written by program. Conditions: none but those in each statement. -/
import Derived.Test.YtipcledgblodjaaZCullSiftsPCullSiftsx0
import Derived.Test.YtipcledgblodjaaZCullSiftsPCullSiftsx2
namespace Go.Proofs.Ytipcledgblodjaa.PCullSifts
open Go.RowKit Go.Proofs.YtipcledgblodjaaW.PrintWords Go.Proofs.YtipcledgblodjaaW.PrintLast Go.Proofs.YtipcledgblodjaaW.PrintMore
attribute [local go_sem] max2_int min2_int max_two min_two max_three min_three max_four min_four   -- for this text's walks alone
set_option linter.unusedVariables false
set_option linter.unusedSimpArgs false

/-! ### cull_Hidden: function 41 -/
mutual
def cull_Hidden.j0 : Nat → List (S26) → Int → Bool → Option (Bool)
 | 0, _, _, _ => none
 | k + 1, x0, x1, x15 => if x15 = true then (some false) else (if 0 ≤ x1 then (if x1 < (x0.length : Int) then ((owner_Seen.f ((rd_T26 x0 x1).f0) ((rd_T26 x0 x1).f1) ((rd_T26 x0 x1).f2.f0) ((rd_T26 x0 x1).f2.f1) ((rd_T26 x0 x1).f2.f2) ((rd_T26 x0 x1).f2.f3) ((rd_T26 x0 x1).f3.f0) ((rd_T26 x0 x1).f3.f1) ((rd_T26 x0 x1).f3.f2) ((rd_T26 x0 x1).f3.f3) ((rd_T26 x0 x1).f4.f0) ((rd_T26 x0 x1).f4.f1) ((rd_T26 x0 x1).f4.f2) ((rd_T26 x0 x1).f4.f3) ((rd_T26 x0 x1).f5)).bind fun bt117 => ((rect_Empty.f bt117.1 bt117.2.1 bt117.2.2.1 bt117.2.2.2).bind fun t122 => (if t122 = true then (some true) else (if 0 ≤ (wrap64 (x1 + 1)) then (if (wrap64 (x1 + 1)) ≤ (x0.length : Int) then ((some (x0.drop ((wrap64 (x1 + 1)) : Int).toNat : List (S26))).bind fun y123 => (cull_Hidden.l0 k y123 (y123.length : Int) 0 bt117.1 bt117.2.1 bt117.2.2.1 bt117.2.2.2)) else (none)) else (none))))) else (none)) else (none))
def cull_Hidden.l0 : Nat → List (S26) → Int → Int → Int → Int → Int → Int → Option (Bool)
 | 0, _, _, _, _, _, _, _ => none
 | k + 1, x26, x27, x28, x122000, x122001, x122002, x122003 => if x28 < x27 then (if 0 ≤ x28 then (if x28 < (x26.length : Int) then (if ((rd_T26 x26 x28).f1) = 0 then ((owner_Seen.f ((rd_T26 x26 x28).f0) ((rd_T26 x26 x28).f1) ((rd_T26 x26 x28).f2.f0) ((rd_T26 x26 x28).f2.f1) ((rd_T26 x26 x28).f2.f2) ((rd_T26 x26 x28).f2.f3) ((rd_T26 x26 x28).f3.f0) ((rd_T26 x26 x28).f3.f1) ((rd_T26 x26 x28).f3.f2) ((rd_T26 x26 x28).f3.f3) ((rd_T26 x26 x28).f4.f0) ((rd_T26 x26 x28).f4.f1) ((rd_T26 x26 x28).f4.f2) ((rd_T26 x26 x28).f4.f3) ((rd_T26 x26 x28).f5)).bind fun bt129 => ((rect_Inside.f x122000 x122001 x122002 x122003 bt129.1 bt129.2.1 bt129.2.2.1 bt129.2.2.2).bind fun t133 => (if t133 = true then (some true) else (cull_Hidden.l0 k x26 x27 (wrap64 (x28 + 1)) x122000 x122001 x122002 x122003)))) else (cull_Hidden.l0 k x26 x27 (wrap64 (x28 + 1)) x122000 x122001 x122002 x122003)) else (none)) else (none)) else (some false)
end
def cull_Hidden.f (k : Nat) (l0 : List (S26)) (a1 : Int) : Option (Bool) := if a1 < 0 then (cull_Hidden.j0 k l0 a1 true) else (cull_Hidden.j0 k l0 a1 (decide (a1 ≥ (l0.length : Int))))
theorem cull_Hidden.mono_l : ∀ k, (∀ y0 y1 y2, LeO (cull_Hidden.j0 k y0 y1 y2) (cull_Hidden.j0 (k + 1) y0 y1 y2)) ∧ (∀ y0 y1 y2 y3 y4 y5 y6, LeO (cull_Hidden.l0 k y0 y1 y2 y3 y4 y5 y6) (cull_Hidden.l0 (k + 1) y0 y1 y2 y3 y4 y5 y6))
 | 0 => ⟨fun _ _ _ r h => by simp [cull_Hidden.j0] at h, fun _ _ _ _ _ _ _ r h => by simp [cull_Hidden.l0] at h⟩
 | k + 1 => by
  obtain ⟨ih0, ih1⟩ := cull_Hidden.mono_l k
  refine ⟨?_, ?_⟩
  ·intro y0 y1 y2
   unfold cull_Hidden.j0
   repeat' first
   | (with_reducible exact ih0 _ _ _)
   | (with_reducible exact ih1 _ _ _ _ _ _ _)
   | (with_reducible exact LeO.refl _)
   | (with_reducible exact LeO.none _)
   | (with_reducible refine LeO.ite ?_ ?_)
   | (with_reducible refine LeO.bind ?_ (fun _ => ?_))
   | exact ih0 _ _ _
   | exact ih1 _ _ _ _ _ _ _
   | exact LeO.none _
   | refine LeO.ite ?_ ?_
   | refine LeO.bind ?_ (fun _ => ?_)
  ·intro y0 y1 y2 y3 y4 y5 y6
   unfold cull_Hidden.l0
   repeat' first
   | (with_reducible exact ih0 _ _ _)
   | (with_reducible exact ih1 _ _ _ _ _ _ _)
   | (with_reducible exact LeO.refl _)
   | (with_reducible exact LeO.none _)
   | (with_reducible refine LeO.ite ?_ ?_)
   | (with_reducible refine LeO.bind ?_ (fun _ => ?_))
   | exact ih0 _ _ _
   | exact ih1 _ _ _ _ _ _ _
   | exact LeO.none _
   | refine LeO.ite ?_ ?_
   | refine LeO.bind ?_ (fun _ => ?_)
theorem cull_Hidden.mono : ∀ a0 a1 k, LeO (cull_Hidden.f k a0 a1) (cull_Hidden.f (k + 1) a0 a1) := by
 intro a0 a1 k
 obtain ⟨ih0, ih1⟩ := cull_Hidden.mono_l k
 unfold cull_Hidden.f
 repeat' first
   | (with_reducible exact ih0 _ _ _)
   | (with_reducible exact ih1 _ _ _ _ _ _ _)
   | (with_reducible exact LeO.refl _)
   | (with_reducible exact LeO.none _)
   | (with_reducible refine LeO.ite ?_ ?_)
   | (with_reducible refine LeO.bind ?_ (fun _ => ?_))
   | exact ih0 _ _ _
   | exact ih1 _ _ _ _ _ _ _
   | exact LeO.none _
   | refine LeO.ite ?_ ?_
   | refine LeO.bind ?_ (fun _ => ?_)
def cull_Hidden.T9 : Bool × List (List Nat × List Nat) := (true, [([], []), ([0], [0]), ([1], [1]), ([2], [2]), ([3], [3]), ([3], [3]), ([5, 3, 3], [3, 5]), ([4, 6, 6, 3], [3, 4, 6]), ([3, 7], [3, 7])])
def cull_Hidden.B9 : List Nat := [0, 1, 3, 7, 15, 15, 47, 127, 255]
theorem cull_Hidden.tab9 : rtab .any (opsOf Try.f41 9) = cull_Hidden.T9 := by kernel_rfl
theorem cull_Hidden.bits9 : waitsOk cull_Hidden.T9.2 cull_Hidden.B9 = true := by kernel_rfl
set_option maxHeartbeats 8000000 in
set_option maxRecDepth 100000 in
theorem cull_Hidden.calls (k : Nat) (A0 : Option Addr) (c0 : Nat) (l0 : List (S26)) (a1 : Int) (r : Bool) (w : World) (hr0 : Kd.C k26 w A0 l0.length l0) (hc0 : l0.length ≤ c0) (h : cull_Hidden.f k l0 a1 = some r) :
  Calls Try.prog 41 #[.slice A0 l0.length c0, .int .i64 a1] w fun e w' => e = .returned (.bool r) ∧ Below w.heap.size w w' := by
 have hu26 := Try.underlying26
 have hu24 := Try.underlying24
 have HR0 := Aside0.mk hr0
 have HC0 := Aside0.mk hc0
 clear hr0 hc0
 have HB := Aside0.mk (Below.refl w.heap.size w)
 have H : (if a1 < 0 then (cull_Hidden.j0 k l0 a1 true) else (cull_Hidden.j0 k l0 a1 (decide (a1 ≥ (l0.length : Int))))) = some r := h
 clear h
 have HC3 := Aside0.mk H
 clear H
 go_enter Try.func41, Try.ntmps41
 go_upto_region 1 with (fail)
 go_cut [15] (fun v15 wc => ∃ (kq : Nat) (x15_2 : Bool), v15 = .bool x15_2 ∧ Aside0 (cull_Hidden.j0 kq l0 a1 x15_2 = some r) ∧ Aside0 (kq ≤ k) ∧ Aside0 (Below w.heap.size w wc))
 case first =>
  have H := HC3.out
  clear HC3
  by_cases c4 : a1 < 0
  ·rw [if_pos c4] at H
   have c4b0 : decide (a1 < 0) = true := decide_eq_true c4
   clear c4
   (first | rw [c4b0] | (simp only [i64_w, i32_w]; rw [c4b0]) | skip)
   have H' := Aside0.mk H
   clear H
   go_wp2
   go_meet
   case rel => exact ⟨_, (true), (by first | rfl | (simp; done) | (simp [*]; done)), H', ⟨by first | omega | exact Nat.le_refl _⟩, ⟨by repeat (first | (with_reducible first | exact HB.out | apply below_alloc | apply pw_below_drewN | apply below_drew1) | exact HB.out)⟩⟩
  ·rw [if_neg c4] at H
   have c4b0 : decide (a1 < 0) = false := decide_eq_false c4
   clear c4
   (first | rw [c4b0] | (simp only [i64_w, i32_w]; rw [c4b0]) | skip)
   have H' := Aside0.mk H
   clear H
   go_wp2
   go_meet
   case rel => exact ⟨_, (decide (a1 ≥ (l0.length : Int))), (by first | rfl | (simp; done) | (simp [*]; done)), H', ⟨by first | omega | exact Nat.le_refl _⟩, ⟨by repeat (first | (with_reducible first | exact HB.out | apply below_alloc | apply pw_below_drewN | apply below_drew1) | exact HB.out)⟩⟩
 case rest =>
  clear HC3
  try clear p2
  try clear c4
  try clear c4b0
  obtain ⟨kq, x15_2, rfl, HA, HJ2, HB⟩ := hcut
  cases kq with
  | zero => exact absurd HA.out (by simp [cull_Hidden.j0])
  | succ kj2 =>
   have H := HA.out
   clear HA
   simp only [cull_Hidden.j0] at H
   by_cases c5 : x15_2 = true
   ·subst c5
    have H1 : (some false) = some r := by rw [if_pos rfl] at H; exact H
    clear H
    have H := H1
    clear H1
    obtain rfl := Option.some.inj H
    go_wp2
    go_ret
    exact ⟨by first | rfl | (simp [errW_none, errW_some] <;> rfl) | (simp [*, errW_none, errW_some] <;> rfl), by repeat (first | (with_reducible first | exact HB.out | apply below_alloc | apply pw_below_drewN | apply below_drew1) | exact HB.out)⟩
   ·replace c5 := Bool.eq_false_iff.mpr c5
    subst c5
    have H1 : (if 0 ≤ a1 then (if a1 < (l0.length : Int) then ((owner_Seen.f ((rd_T26 l0 a1).f0) ((rd_T26 l0 a1).f1) ((rd_T26 l0 a1).f2.f0) ((rd_T26 l0 a1).f2.f1) ((rd_T26 l0 a1).f2.f2) ((rd_T26 l0 a1).f2.f3) ((rd_T26 l0 a1).f3.f0) ((rd_T26 l0 a1).f3.f1) ((rd_T26 l0 a1).f3.f2) ((rd_T26 l0 a1).f3.f3) ((rd_T26 l0 a1).f4.f0) ((rd_T26 l0 a1).f4.f1) ((rd_T26 l0 a1).f4.f2) ((rd_T26 l0 a1).f4.f3) ((rd_T26 l0 a1).f5)).bind fun bt117 => ((rect_Empty.f bt117.1 bt117.2.1 bt117.2.2.1 bt117.2.2.2).bind fun t122 => (if t122 = true then (some true) else (if 0 ≤ (wrap64 (a1 + 1)) then (if (wrap64 (a1 + 1)) ≤ (l0.length : Int) then ((some (l0.drop ((wrap64 (a1 + 1)) : Int).toNat : List (S26))).bind fun y123 => (cull_Hidden.l0 kj2 y123 (y123.length : Int) 0 bt117.1 bt117.2.1 bt117.2.2.1 bt117.2.2.2)) else (none)) else (none))))) else (none)) else (none)) = some r := by rw [if_neg (show ¬ (false = true) by decide)] at H; exact H
    clear H
    have H := H1
    clear H1
    by_cases c6 : 0 ≤ a1
    ·rw [if_pos c6] at H
     have c6b0 : decide (0 ≤ a1) = true := decide_eq_true c6
     clear c6
     by_cases c7 : a1 < (l0.length : Int)
     ·rw [if_pos c7] at H
      have c7b0 : decide (a1 < (l0.length : Int)) = true := decide_eq_true c7
      clear c7
      replace H := Option.bind_eq_some_iff.mp H
      obtain ⟨⟨t117, t118, t119, t120⟩, A80, H⟩ := H
      replace H : ((rect_Empty.f t117 t118 t119 t120).bind fun t122 => (if t122 = true then (some true) else (if 0 ≤ (wrap64 (a1 + 1)) then (if (wrap64 (a1 + 1)) ≤ (l0.length : Int) then ((some (l0.drop ((wrap64 (a1 + 1)) : Int).toNat : List (S26))).bind fun y123 => (cull_Hidden.l0 kj2 y123 (y123.length : Int) 0 t117 t118 t119 t120)) else (none)) else (none)))) = some r := H
      have A8 := Aside0.mk A80
      clear A80
      replace H := Option.bind_eq_some_iff.mp H
      obtain ⟨t122, A90, H⟩ := H
      replace H : (if t122 = true then (some true) else (if 0 ≤ (wrap64 (a1 + 1)) then (if (wrap64 (a1 + 1)) ≤ (l0.length : Int) then ((some (l0.drop ((wrap64 (a1 + 1)) : Int).toNat : List (S26))).bind fun y123 => (cull_Hidden.l0 kj2 y123 (y123.length : Int) 0 t117 t118 t119 t120)) else (none)) else (none))) = some r := H
      have A9 := Aside0.mk A90
      clear A90
      by_cases c10 : t122 = true
      ·subst c10
       have H1 : (some true) = some r := by rw [if_pos rfl] at H; exact H
       clear H
       have H := H1
       clear H1
       obtain rfl := Option.some.inj H
       have p116 : 0 ≤ (a1 : Int) := of_decide_eq_true (by first | (with_reducible assumption) | assumption)
       have q116 : a1 < (l0.length : Int) := of_decide_eq_true (by first | (with_reducible assumption) | assumption)
       obtain ⟨ad116, e116, hx116_0, hx116_1, hx116_2, hx116_3, hx116_4, hx116_5, hx116_6, hx116_7, hx116_8, hx116_9, hx116_10, hx116_11, hx116_12, hx116_13, hx116_14⟩ := at_T26 HR0.out a1 p116 q116
       cases e116
       replace hx116_0 := (HB.out.cell (World.block_lt_of_cell? w _ hx116_0)).trans hx116_0
       replace hx116_1 := (HB.out.cell (World.block_lt_of_cell? w _ hx116_1)).trans hx116_1
       replace hx116_2 := (HB.out.cell (World.block_lt_of_cell? w _ hx116_2)).trans hx116_2
       replace hx116_3 := (HB.out.cell (World.block_lt_of_cell? w _ hx116_3)).trans hx116_3
       replace hx116_4 := (HB.out.cell (World.block_lt_of_cell? w _ hx116_4)).trans hx116_4
       replace hx116_5 := (HB.out.cell (World.block_lt_of_cell? w _ hx116_5)).trans hx116_5
       replace hx116_6 := (HB.out.cell (World.block_lt_of_cell? w _ hx116_6)).trans hx116_6
       replace hx116_7 := (HB.out.cell (World.block_lt_of_cell? w _ hx116_7)).trans hx116_7
       replace hx116_8 := (HB.out.cell (World.block_lt_of_cell? w _ hx116_8)).trans hx116_8
       replace hx116_9 := (HB.out.cell (World.block_lt_of_cell? w _ hx116_9)).trans hx116_9
       replace hx116_10 := (HB.out.cell (World.block_lt_of_cell? w _ hx116_10)).trans hx116_10
       replace hx116_11 := (HB.out.cell (World.block_lt_of_cell? w _ hx116_11)).trans hx116_11
       replace hx116_12 := (HB.out.cell (World.block_lt_of_cell? w _ hx116_12)).trans hx116_12
       replace hx116_13 := (HB.out.cell (World.block_lt_of_cell? w _ hx116_13)).trans hx116_13
       replace hx116_14 := (HB.out.cell (World.block_lt_of_cell? w _ hx116_14)).trans hx116_14
       replace p116 := eq_true p116
       replace q116 := eq_true q116
       go_wp2_with (first | ((with_reducible refine gate_callee (f := 22) rfl ?_); refine goesL_ (some 20) rfl rfl Try.func22 (by kernel_rfl) rfl #[.agg #[.int .i64 ((rd_T26 l0 a1).f0), .int .i64 ((rd_T26 l0 a1).f1), .int .i64 ((rd_T26 l0 a1).f2.f0), .int .i64 ((rd_T26 l0 a1).f2.f1), .int .i64 ((rd_T26 l0 a1).f2.f2), .int .i64 ((rd_T26 l0 a1).f2.f3), .int .i64 ((rd_T26 l0 a1).f3.f0), .int .i64 ((rd_T26 l0 a1).f3.f1), .int .i64 ((rd_T26 l0 a1).f3.f2), .int .i64 ((rd_T26 l0 a1).f3.f3), .int .i64 ((rd_T26 l0 a1).f4.f0), .int .i64 ((rd_T26 l0 a1).f4.f1), .int .i64 ((rd_T26 l0 a1).f4.f2), .int .i64 ((rd_T26 l0 a1).f4.f3), .int .i64 ((rd_T26 l0 a1).f5)]] rfl (by (try simp only [List.map_toArray, List.map_cons, List.map_nil]); first | done | rfl | (simp only [List.length_drop, List.length_take]; rfl)) ?_; (with_reducible refine (owner_Seen.calls ((rd_T26 l0 a1).f0) ((rd_T26 l0 a1).f1) ((rd_T26 l0 a1).f2.f0) ((rd_T26 l0 a1).f2.f1) ((rd_T26 l0 a1).f2.f2) ((rd_T26 l0 a1).f2.f3) ((rd_T26 l0 a1).f3.f0) ((rd_T26 l0 a1).f3.f1) ((rd_T26 l0 a1).f3.f2) ((rd_T26 l0 a1).f3.f3) ((rd_T26 l0 a1).f4.f0) ((rd_T26 l0 a1).f4.f1) ((rd_T26 l0 a1).f4.f2) ((rd_T26 l0 a1).f4.f3) ((rd_T26 l0 a1).f5) t117 t118 t119 t120 _ A8.out).mono ?_); rintro e w11 ⟨rfl, hb⟩; refine ⟨_, rfl, ?_⟩; have n0_ := Aside0.mk (below_step (by repeat (first | (with_reducible first | exact HB.out | apply below_alloc | apply pw_below_drewN | apply below_drew1) | exact HB.out)) hb); clear HB; have HB := n0_; clear n0_; (try clear hb); (try clear hb2); (try clear hk); (try clear hi)) | ((with_reducible refine gate_dst (N := 5) rfl ?_); (try (refine gate_guard (by rfl) ?_; dsimp only)); refine box_event ?hg (N := 5) ?hd (cs := #[.int .i64 0, .int .i64 0, .int .i64 0, .int .i64 0]) (t := 24) ?hr ?_; (case hd => rfl); (case hg => rfl); (case hr => first | (go_simp; done) | (go_simp; rfl)); intro gb121 hg w12 hbox hb; have n0_ := Aside0.mk (below_step (by repeat (first | (with_reducible first | exact HB.out | apply below_alloc | apply pw_below_drewN | apply below_drew1) | exact HB.out)) hb); have n1_ := Aside0.mk (hbox); have n2_ := Aside0.mk ((by rw [hg]; exact (below_size (by repeat (first | (with_reducible first | exact HB.out | apply below_alloc | apply pw_below_drewN | apply below_drew1) | exact HB.out))) : w.heap.size ≤ gb121)); have n3_ := Aside0.mk ((by rw [hg]; exact (below_size (by repeat (first | (with_reducible first | exact HB.out | apply below_alloc | apply pw_below_drewN | apply below_drew1) | exact HB.out))) : w.heap.size ≤ gb121)); clear HB; have HB := n0_; have BK121 := n1_; have GW121 := n2_; have GE121 := n3_; clear n0_ n1_ n2_ n3_; clear hb hbox hg; have hcz13_0 : w12.cell? ⟨gb121, 0, none⟩ = some (.int .i64 0) := (blk_cell BK121.out 0).trans rfl; have hcz13_1 : w12.cell? ⟨gb121, 1, none⟩ = some (.int .i64 0) := (blk_cell BK121.out 1).trans rfl; have hcz13_2 : w12.cell? ⟨gb121, 2, none⟩ = some (.int .i64 0) := (blk_cell BK121.out 2).trans rfl; have hcz13_3 : w12.cell? ⟨gb121, 3, none⟩ = some (.int .i64 0) := (blk_cell BK121.out 3).trans rfl; have hfz13_0 := blk_frozen BK121.out 0; have hfz13_1 := blk_frozen BK121.out 1; have hfz13_2 := blk_frozen BK121.out 2; have hfz13_3 := blk_frozen BK121.out 3) | ((with_reducible refine gate_callee (f := 47) rfl ?_); refine goesL_ (some 22) rfl rfl Try.func47 (by kernel_rfl) rfl #[.agg #[.int .i64 t117, .int .i64 t118, .int .i64 t119, .int .i64 t120]] rfl (by (try simp only [List.map_toArray, List.map_cons, List.map_nil]); first | done | rfl | (simp only [List.length_drop, List.length_take]; rfl)) ?_; (with_reducible refine (rect_Empty.calls t117 t118 t119 t120 true _ A9.out).mono ?_); rintro e w14 ⟨rfl, hb⟩; refine ⟨_, rfl, ?_⟩; have n0_ := Aside0.mk (blk_below (g := gb121) (o := .cells #[.int .i64 t117, .int .i64 t118, .int .i64 t119, .int .i64 t120] 24 (0, 0)) (by (with_reducible repeat (first | refine blk_drewN ?_ _ | refine blk_drew ?_ | refine blk_alloc ?_ _)); refine blk_put (cs := #[.int .i64 t117, .int .i64 t118, .int .i64 t119, .int .i64 0]) ?_ 3 _ rfl; (with_reducible repeat (first | refine blk_drewN ?_ _ | refine blk_drew ?_ | refine blk_alloc ?_ _)); refine blk_put (cs := #[.int .i64 t117, .int .i64 t118, .int .i64 0, .int .i64 0]) ?_ 2 _ rfl; (with_reducible repeat (first | refine blk_drewN ?_ _ | refine blk_drew ?_ | refine blk_alloc ?_ _)); refine blk_put (cs := #[.int .i64 t117, .int .i64 0, .int .i64 0, .int .i64 0]) ?_ 1 _ rfl; (with_reducible repeat (first | refine blk_drewN ?_ _ | refine blk_drew ?_ | refine blk_alloc ?_ _)); refine blk_put (cs := #[.int .i64 0, .int .i64 0, .int .i64 0, .int .i64 0]) ?_ 0 _ rfl; (with_reducible repeat (first | refine blk_drewN ?_ _ | refine blk_drew ?_ | refine blk_alloc ?_ _)); exact BK121.out) hb); have n1_ := Aside0.mk (below_step (by repeat (first | (with_reducible first | exact HB.out | apply below_alloc | apply pw_below_drewN | apply below_drew1 | refine below_set ?_ GE121.out) | exact HB.out)) hb); clear BK121; clear HB; have BK121 := n0_; have HB := n1_; clear n0_ n1_; (try clear hb); (try clear hb2); (try clear hk); (try clear hi)))
       go_ret
       exact ⟨by first | rfl | (simp [errW_none, errW_some] <;> rfl) | (simp [*, errW_none, errW_some] <;> rfl), by repeat (first | (with_reducible first | exact HB.out | apply below_alloc | apply pw_below_drewN | apply below_drew1 | refine below_set ?_ GE121.out) | exact HB.out)⟩
      ·replace c10 := Bool.eq_false_iff.mpr c10
       subst c10
       have H1 : (if 0 ≤ (wrap64 (a1 + 1)) then (if (wrap64 (a1 + 1)) ≤ (l0.length : Int) then ((some (l0.drop ((wrap64 (a1 + 1)) : Int).toNat : List (S26))).bind fun y123 => (cull_Hidden.l0 kj2 y123 (y123.length : Int) 0 t117 t118 t119 t120)) else (none)) else (none)) = some r := by rw [if_neg (show ¬ (false = true) by decide)] at H; exact H
       clear H
       have H := H1
       clear H1
       obtain ⟨ji15, hji15⟩ : ∃ j_ : Int, (wrap64 (a1 + 1)) = j_ := ⟨_, rfl⟩
       replace H : (if 0 ≤ (ji15) then (if (ji15) ≤ (l0.length : Int) then ((some (l0.drop ((ji15) : Int).toNat : List (S26))).bind fun y123 => (cull_Hidden.l0 kj2 y123 (y123.length : Int) 0 t117 t118 t119 t120)) else (none)) else (none)) = some r := by first | (rw [hji15] at H; exact H) | (simp only [hji15] at H ⊢; exact H)
       (try rw [hji15] at A8)
       (try rw [hji15] at A9)
       have hji15w : (IntKind.i64.wrap (a1 + 1)) = ji15 := (i64_w _).trans hji15
       by_cases c16 : 0 ≤ (ji15)
       ·rw [if_pos c16] at H
        have c16b0 := eq_true c16
        have c16b1 : decide (0 ≤ (ji15)) = true := decide_eq_true c16
        clear c16
        by_cases c17 : (ji15) ≤ (l0.length : Int)
        ·rw [if_pos c17] at H
         have c17b0 := eq_true c17
         have c17b1 : decide ((ji15) ≤ (l0.length : Int)) = true := decide_eq_true c17
         clear c17
         obtain ⟨y123, hy123⟩ : ∃ y_ : List (S26), y_ = (l0.drop ((ji15) : Int).toNat) := ⟨_, rfl⟩
         replace H : (cull_Hidden.l0 kj2 y123 (y123.length : Int) 0 t117 t118 t119 t120) = some r := by first | (rw [hy123]; with_reducible exact H) | (have H2_ := (Option.bind_some _ _).symm.trans H; rw [hy123]; with_reducible exact H2_) | (have H2_ := (Option.bind_some _ _).symm.trans H; with_reducible exact H2_) | with_reducible exact H | (rw [hy123]; exact H) | exact H
         have Ny123 := Aside0.mk hy123
         clear hy123
         have H' := Aside0.mk H
         clear H
         have p116 : 0 ≤ (a1 : Int) := of_decide_eq_true (by first | (with_reducible assumption) | assumption)
         have q116 : a1 < (l0.length : Int) := of_decide_eq_true (by first | (with_reducible assumption) | assumption)
         obtain ⟨ad116, e116, hx116_0, hx116_1, hx116_2, hx116_3, hx116_4, hx116_5, hx116_6, hx116_7, hx116_8, hx116_9, hx116_10, hx116_11, hx116_12, hx116_13, hx116_14⟩ := at_T26 HR0.out a1 p116 q116
         cases e116
         replace hx116_0 := (HB.out.cell (World.block_lt_of_cell? w _ hx116_0)).trans hx116_0
         replace hx116_1 := (HB.out.cell (World.block_lt_of_cell? w _ hx116_1)).trans hx116_1
         replace hx116_2 := (HB.out.cell (World.block_lt_of_cell? w _ hx116_2)).trans hx116_2
         replace hx116_3 := (HB.out.cell (World.block_lt_of_cell? w _ hx116_3)).trans hx116_3
         replace hx116_4 := (HB.out.cell (World.block_lt_of_cell? w _ hx116_4)).trans hx116_4
         replace hx116_5 := (HB.out.cell (World.block_lt_of_cell? w _ hx116_5)).trans hx116_5
         replace hx116_6 := (HB.out.cell (World.block_lt_of_cell? w _ hx116_6)).trans hx116_6
         replace hx116_7 := (HB.out.cell (World.block_lt_of_cell? w _ hx116_7)).trans hx116_7
         replace hx116_8 := (HB.out.cell (World.block_lt_of_cell? w _ hx116_8)).trans hx116_8
         replace hx116_9 := (HB.out.cell (World.block_lt_of_cell? w _ hx116_9)).trans hx116_9
         replace hx116_10 := (HB.out.cell (World.block_lt_of_cell? w _ hx116_10)).trans hx116_10
         replace hx116_11 := (HB.out.cell (World.block_lt_of_cell? w _ hx116_11)).trans hx116_11
         replace hx116_12 := (HB.out.cell (World.block_lt_of_cell? w _ hx116_12)).trans hx116_12
         replace hx116_13 := (HB.out.cell (World.block_lt_of_cell? w _ hx116_13)).trans hx116_13
         replace hx116_14 := (HB.out.cell (World.block_lt_of_cell? w _ hx116_14)).trans hx116_14
         replace p116 := eq_true p116
         replace q116 := eq_true q116
         go_wp2_with (first | ((with_reducible refine gate_callee (f := 22) rfl ?_); refine goesL_ (some 20) rfl rfl Try.func22 (by kernel_rfl) rfl #[.agg #[.int .i64 ((rd_T26 l0 a1).f0), .int .i64 ((rd_T26 l0 a1).f1), .int .i64 ((rd_T26 l0 a1).f2.f0), .int .i64 ((rd_T26 l0 a1).f2.f1), .int .i64 ((rd_T26 l0 a1).f2.f2), .int .i64 ((rd_T26 l0 a1).f2.f3), .int .i64 ((rd_T26 l0 a1).f3.f0), .int .i64 ((rd_T26 l0 a1).f3.f1), .int .i64 ((rd_T26 l0 a1).f3.f2), .int .i64 ((rd_T26 l0 a1).f3.f3), .int .i64 ((rd_T26 l0 a1).f4.f0), .int .i64 ((rd_T26 l0 a1).f4.f1), .int .i64 ((rd_T26 l0 a1).f4.f2), .int .i64 ((rd_T26 l0 a1).f4.f3), .int .i64 ((rd_T26 l0 a1).f5)]] rfl (by (try simp only [List.map_toArray, List.map_cons, List.map_nil]); first | done | rfl | (simp only [List.length_drop, List.length_take]; rfl)) ?_; (with_reducible refine (owner_Seen.calls ((rd_T26 l0 a1).f0) ((rd_T26 l0 a1).f1) ((rd_T26 l0 a1).f2.f0) ((rd_T26 l0 a1).f2.f1) ((rd_T26 l0 a1).f2.f2) ((rd_T26 l0 a1).f2.f3) ((rd_T26 l0 a1).f3.f0) ((rd_T26 l0 a1).f3.f1) ((rd_T26 l0 a1).f3.f2) ((rd_T26 l0 a1).f3.f3) ((rd_T26 l0 a1).f4.f0) ((rd_T26 l0 a1).f4.f1) ((rd_T26 l0 a1).f4.f2) ((rd_T26 l0 a1).f4.f3) ((rd_T26 l0 a1).f5) t117 t118 t119 t120 _ A8.out).mono ?_); rintro e w18 ⟨rfl, hb⟩; refine ⟨_, rfl, ?_⟩; have n0_ := Aside0.mk (below_step (by repeat (first | (with_reducible first | exact HB.out | apply below_alloc | apply pw_below_drewN | apply below_drew1) | exact HB.out)) hb); clear HB; have HB := n0_; clear n0_; (try clear hb); (try clear hb2); (try clear hk); (try clear hi)) | ((with_reducible refine gate_dst (N := 5) rfl ?_); (try (refine gate_guard (by rfl) ?_; dsimp only)); refine box_event ?hg (N := 5) ?hd (cs := #[.int .i64 0, .int .i64 0, .int .i64 0, .int .i64 0]) (t := 24) ?hr ?_; (case hd => rfl); (case hg => rfl); (case hr => first | (go_simp; done) | (go_simp; rfl)); intro gb121 hg w19 hbox hb; have n0_ := Aside0.mk (below_step (by repeat (first | (with_reducible first | exact HB.out | apply below_alloc | apply pw_below_drewN | apply below_drew1) | exact HB.out)) hb); have n1_ := Aside0.mk (hbox); have n2_ := Aside0.mk ((by rw [hg]; exact (below_size (by repeat (first | (with_reducible first | exact HB.out | apply below_alloc | apply pw_below_drewN | apply below_drew1) | exact HB.out))) : w.heap.size ≤ gb121)); have n3_ := Aside0.mk ((by rw [hg]; exact (below_size (by repeat (first | (with_reducible first | exact HB.out | apply below_alloc | apply pw_below_drewN | apply below_drew1) | exact HB.out))) : w.heap.size ≤ gb121)); clear HB; have HB := n0_; have BK121 := n1_; have GW121 := n2_; have GE121 := n3_; clear n0_ n1_ n2_ n3_; clear hb hbox hg; have hcz20_0 : w19.cell? ⟨gb121, 0, none⟩ = some (.int .i64 0) := (blk_cell BK121.out 0).trans rfl; have hcz20_1 : w19.cell? ⟨gb121, 1, none⟩ = some (.int .i64 0) := (blk_cell BK121.out 1).trans rfl; have hcz20_2 : w19.cell? ⟨gb121, 2, none⟩ = some (.int .i64 0) := (blk_cell BK121.out 2).trans rfl; have hcz20_3 : w19.cell? ⟨gb121, 3, none⟩ = some (.int .i64 0) := (blk_cell BK121.out 3).trans rfl; have hfz20_0 := blk_frozen BK121.out 0; have hfz20_1 := blk_frozen BK121.out 1; have hfz20_2 := blk_frozen BK121.out 2; have hfz20_3 := blk_frozen BK121.out 3) | ((with_reducible refine gate_callee (f := 47) rfl ?_); refine goesL_ (some 22) rfl rfl Try.func47 (by kernel_rfl) rfl #[.agg #[.int .i64 t117, .int .i64 t118, .int .i64 t119, .int .i64 t120]] rfl (by (try simp only [List.map_toArray, List.map_cons, List.map_nil]); first | done | rfl | (simp only [List.length_drop, List.length_take]; rfl)) ?_; (with_reducible refine (rect_Empty.calls t117 t118 t119 t120 false _ A9.out).mono ?_); rintro e w21 ⟨rfl, hb⟩; refine ⟨_, rfl, ?_⟩; have n0_ := Aside0.mk (blk_below (g := gb121) (o := .cells #[.int .i64 t117, .int .i64 t118, .int .i64 t119, .int .i64 t120] 24 (0, 0)) (by (with_reducible repeat (first | refine blk_drewN ?_ _ | refine blk_drew ?_ | refine blk_alloc ?_ _)); refine blk_put (cs := #[.int .i64 t117, .int .i64 t118, .int .i64 t119, .int .i64 0]) ?_ 3 _ rfl; (with_reducible repeat (first | refine blk_drewN ?_ _ | refine blk_drew ?_ | refine blk_alloc ?_ _)); refine blk_put (cs := #[.int .i64 t117, .int .i64 t118, .int .i64 0, .int .i64 0]) ?_ 2 _ rfl; (with_reducible repeat (first | refine blk_drewN ?_ _ | refine blk_drew ?_ | refine blk_alloc ?_ _)); refine blk_put (cs := #[.int .i64 t117, .int .i64 0, .int .i64 0, .int .i64 0]) ?_ 1 _ rfl; (with_reducible repeat (first | refine blk_drewN ?_ _ | refine blk_drew ?_ | refine blk_alloc ?_ _)); refine blk_put (cs := #[.int .i64 0, .int .i64 0, .int .i64 0, .int .i64 0]) ?_ 0 _ rfl; (with_reducible repeat (first | refine blk_drewN ?_ _ | refine blk_drew ?_ | refine blk_alloc ?_ _)); exact BK121.out) hb); have n1_ := Aside0.mk (below_step (by repeat (first | (with_reducible first | exact HB.out | apply below_alloc | apply pw_below_drewN | apply below_drew1 | refine below_set ?_ GE121.out) | exact HB.out)) hb); clear BK121; clear HB; have BK121 := n0_; have HB := n1_; clear n0_ n1_; (try clear hb); (try clear hb2); (try clear hk); (try clear hi); have q22 : ((ji15) : Int) ≤ ((l0.length : Int) : Int) := of_decide_eq_true (by first | (with_reducible assumption) | assumption); obtain ⟨i022, hi022, _, hsz22, _⟩ := info_parts info26; have hroom22 : l0.length ≤ c0 := HC0.out; have hC22 : Kd.C k26 _ (some ad116) l0.length l0 := HR0.out; have q022 : (0 : Int) ≤ ((ji15) : Int) := of_decide_eq_true (by first | (with_reducible assumption) | assumption); have hcut22 := cut_from (P := Try.prog) 22 26 .i64 Try.underlying22 hi022 15 hsz22 (some ad116) l0.length c0 (ji15) q022 q22; have hr22 := Kd.C_drop (m := ((ji15) : Int).toNat) (c := c0) hC22 (by omega) hroom22; obtain ⟨A22, hA22⟩ : ∃ A1, A1 = (if c0 = ((ji15) : Int).toNat then (some ad116) else ((some ad116) : Option Addr).map (·.add (((ji15) : Int).toNat * 15))) := ⟨_, rfl⟩; obtain ⟨c22, hc22⟩ : ∃ c1, c1 = c0 - ((ji15) : Int).toNat := ⟨_, rfl⟩; have hy22 : y123.length = l0.length - ((ji15) : Int).toNat := (by rw [Ny123.out, List.length_drop] <;> omega); rw [show (l0).drop ((ji15) : Int).toNat = y123 from Ny123.out.symm] at hr22; replace hr22 : Kd.C k26 _ A22 y123.length y123 := (by rw [hA22]; exact hr22); rw [← hy22, ← hA22, ← hc22] at hcut22; have HR126 := Aside0.mk hr22; have HC126 := Aside0.mk (show y123.length ≤ c22 from by rw [hy22, hc22]; exact Nat.sub_le_sub_right hroom22 _); clear hr22 hC22 hroom22 hi022 hsz22 hc22; have KY22 := Aside0.mk hy22; have KA22 := Aside0.mk hA22; clear hy22 hA22; replace q22 := eq_true q22))
         go_loopg [28] kj2 (fun kq v28 w' => ∃ (x28_2 : Int), v28 = .int .i64 x28_2 ∧ Aside0 (cull_Hidden.l0 kq y123 (y123.length : Int) x28_2 t117 t118 t119 t120 = some r) ∧ Aside0 (kq ≤ kj2) ∧ Aside0 (w'.heap[gb121]? = some (.cells #[.int .i64 t117, .int .i64 t118, .int .i64 t119, .int .i64 t120] 24 (0, 0))) ∧ Aside0 (Below w.heap.size w w'))
         case atStart => exact ⟨(0), (by first | rfl | (simp; done) | (simp [*]; done)), H', ⟨Nat.le_refl _⟩, ⟨by (with_reducible repeat (first | refine blk_drewN ?_ _ | refine blk_drew ?_ | refine blk_alloc ?_ _)); exact BK121.out⟩, ⟨by repeat (first | (with_reducible first | exact HB.out | apply below_alloc | apply pw_below_drewN | apply below_drew1 | refine below_set ?_ GE121.out) | exact HB.out)⟩⟩
         case round =>
          clear H'
          try clear c1
          try clear p1
          try clear q1
          try clear hx1
          try clear c2
          try clear p2
          try clear q2
          try clear c4
          try clear c4b0
          try clear c5
          try clear c6
          try clear c6b0
          try clear p6
          try clear c7
          try clear c7b0
          try clear c10
          try clear p11
          try clear q11
          try clear hx11
          try clear c16
          try clear c16b0
          try clear c16b1
          try clear c17
          try clear c17b0
          try clear c17b1
          try clear c22
          try clear q22
          try clear hcz13_0
          try clear hcz13_1
          try clear hcz13_2
          try clear hcz13_3
          try clear hcz20_0
          try clear hcz20_1
          try clear hcz20_2
          try clear hcz20_3
          try clear hfz13_0
          try clear hfz13_1
          try clear hfz13_2
          try clear hfz13_3
          try clear hfz20_0
          try clear hfz20_1
          try clear hfz20_2
          try clear hfz20_3
          try clear hx116_0
          try clear hx116_1
          try clear hx116_10
          try clear hx116_11
          try clear hx116_12
          try clear hx116_13
          try clear hx116_14
          try clear hx116_2
          try clear hx116_3
          try clear hx116_4
          try clear hx116_5
          try clear hx116_6
          try clear hx116_7
          try clear hx116_8
          try clear hx116_9
          try clear p116
          try clear p2
          try clear q022
          try clear q116
          try clear q22
          obtain ⟨x28_2, rfl, HA, HK2, BK121, HB⟩ := hrel
          cases gk with
          | zero => exact absurd HA.out (by simp [cull_Hidden.l0])
          | succ k2 =>
           have H := HA.out
           clear HA
           simp only [cull_Hidden.l0] at H
           by_cases c23 : x28_2 < (y123.length : Int)
           ·rw [if_pos c23] at H
            have c23b0 : decide (x28_2 < (y123.length : Int)) = true := decide_eq_true c23
            clear c23
            by_cases c24 : 0 ≤ x28_2
            ·rw [if_pos c24] at H
             have c24b0 : decide (0 ≤ x28_2) = true := decide_eq_true c24
             clear c24
             by_cases c25 : x28_2 < (y123.length : Int)
             ·rw [if_pos c25] at H
              have c25b0 : decide (x28_2 < (y123.length : Int)) = true := decide_eq_true c25
              clear c25
              by_cases c26 : ((rd_T26 y123 x28_2).f1) = 0
              ·rw [if_pos c26] at H
               have c26b0 : (((rd_T26 y123 x28_2).f1) == 0) = true := beq_iff_eq.mpr c26
               have c26b1 : (((rd_T26 y123 x28_2).f1) != 0) = false := bne_eq_false_iff_eq.mpr c26
               clear c26
               replace H := Option.bind_eq_some_iff.mp H
               obtain ⟨⟨t129, t130, t131, t132⟩, A270, H⟩ := H
               replace H : ((rect_Inside.f t117 t118 t119 t120 t129 t130 t131 t132).bind fun t133 => (if t133 = true then (some true) else (cull_Hidden.l0 k2 y123 (y123.length : Int) (wrap64 (x28_2 + 1)) t117 t118 t119 t120))) = some r := H
               have A27 := Aside0.mk A270
               clear A270
               replace H := Option.bind_eq_some_iff.mp H
               obtain ⟨t133, A280, H⟩ := H
               replace H : (if t133 = true then (some true) else (cull_Hidden.l0 k2 y123 (y123.length : Int) (wrap64 (x28_2 + 1)) t117 t118 t119 t120)) = some r := H
               have A28 := Aside0.mk A280
               clear A280
               have HM := Aside0.mk H
               clear H
               have p127 : 0 ≤ (x28_2 : Int) := of_decide_eq_true (by first | (with_reducible assumption) | assumption)
               have q127 : x28_2 < (y123.length : Int) := of_decide_eq_true (by first | (with_reducible assumption) | assumption)
               obtain ⟨ad127, e127, hx127_0, hx127_1, hx127_2, hx127_3, hx127_4, hx127_5, hx127_6, hx127_7, hx127_8, hx127_9, hx127_10, hx127_11, hx127_12, hx127_13, hx127_14⟩ := at_T26 HR126.out x28_2 p127 q127
               cases e127
               replace hx127_0 := (HB.out.cell (World.block_lt_of_cell? w _ hx127_0)).trans hx127_0
               replace hx127_1 := (HB.out.cell (World.block_lt_of_cell? w _ hx127_1)).trans hx127_1
               replace hx127_2 := (HB.out.cell (World.block_lt_of_cell? w _ hx127_2)).trans hx127_2
               replace hx127_3 := (HB.out.cell (World.block_lt_of_cell? w _ hx127_3)).trans hx127_3
               replace hx127_4 := (HB.out.cell (World.block_lt_of_cell? w _ hx127_4)).trans hx127_4
               replace hx127_5 := (HB.out.cell (World.block_lt_of_cell? w _ hx127_5)).trans hx127_5
               replace hx127_6 := (HB.out.cell (World.block_lt_of_cell? w _ hx127_6)).trans hx127_6
               replace hx127_7 := (HB.out.cell (World.block_lt_of_cell? w _ hx127_7)).trans hx127_7
               replace hx127_8 := (HB.out.cell (World.block_lt_of_cell? w _ hx127_8)).trans hx127_8
               replace hx127_9 := (HB.out.cell (World.block_lt_of_cell? w _ hx127_9)).trans hx127_9
               replace hx127_10 := (HB.out.cell (World.block_lt_of_cell? w _ hx127_10)).trans hx127_10
               replace hx127_11 := (HB.out.cell (World.block_lt_of_cell? w _ hx127_11)).trans hx127_11
               replace hx127_12 := (HB.out.cell (World.block_lt_of_cell? w _ hx127_12)).trans hx127_12
               replace hx127_13 := (HB.out.cell (World.block_lt_of_cell? w _ hx127_13)).trans hx127_13
               replace hx127_14 := (HB.out.cell (World.block_lt_of_cell? w _ hx127_14)).trans hx127_14
               replace p127 := eq_true p127
               replace q127 := eq_true q127
               try go_wp2_with (first | ((with_reducible refine gate_dst (N := 7) rfl ?_); (try (refine gate_guard (by rfl) ?_; dsimp only)); refine box_event ?hg (N := 7) ?hd (cs := #[.int .i64 0, .int .i64 0, .int .i64 0, .int .i64 0, .int .i64 0, .int .i64 0, .int .i64 0, .int .i64 0, .int .i64 0, .int .i64 0, .int .i64 0, .int .i64 0, .int .i64 0, .int .i64 0, .int .i64 0]) (t := 26) ?hr ?_; (case hd => rfl); (case hg => rfl); (case hr => first | (go_simp; done) | (go_simp; rfl)); intro gb128 hg w37 hbox hb; have n0_ := Aside0.mk (blk_below (g := gb121) (o := .cells #[.int .i64 t117, .int .i64 t118, .int .i64 t119, .int .i64 t120] 24 (0, 0)) (by (with_reducible repeat (first | refine blk_drewN ?_ _ | refine blk_drew ?_ | refine blk_alloc ?_ _)); exact BK121.out) hb); have n1_ := Aside0.mk (below_step (by repeat (first | (with_reducible first | exact HB.out | apply below_alloc | apply pw_below_drewN | apply below_drew1 | refine below_set ?_ GE121.out) | exact HB.out)) hb); have n2_ := Aside0.mk (hbox); have n3_ := Aside0.mk ((by rw [hg]; exact (below_size (by repeat (first | (with_reducible first | exact HB.out | apply below_alloc | apply pw_below_drewN | apply below_drew1 | refine below_set ?_ GE121.out) | exact HB.out))) : w.heap.size ≤ gb128)); have n4_ := Aside0.mk ((by rw [hg]; exact (below_size (by repeat (first | (with_reducible first | exact HB.out | apply below_alloc | apply pw_below_drewN | apply below_drew1 | refine below_set ?_ GE121.out) | exact HB.out))) : w.heap.size ≤ gb128)); have n5_ := Aside0.mk ((by rw [hg]; exact Nat.ne_of_lt (blk_lt (g := gb121) (o := .cells #[.int .i64 t117, .int .i64 t118, .int .i64 t119, .int .i64 t120] 24 (0, 0)) (by (with_reducible repeat (first | refine blk_drewN ?_ _ | refine blk_drew ?_ | refine blk_alloc ?_ _)); exact BK121.out)) : gb121 ≠ gb128)); have n6_ := Aside0.mk ((by rw [hg]; exact Nat.ne_of_gt (blk_lt (g := gb121) (o := .cells #[.int .i64 t117, .int .i64 t118, .int .i64 t119, .int .i64 t120] 24 (0, 0)) (by (with_reducible repeat (first | refine blk_drewN ?_ _ | refine blk_drew ?_ | refine blk_alloc ?_ _)); exact BK121.out)) : gb128 ≠ gb121)); clear BK121; clear HB; have BK121 := n0_; have HB := n1_; have BK128 := n2_; have GW128 := n3_; have GE128 := n4_; have NB121_128 := n5_; have NB128_121 := n6_; clear n0_ n1_ n2_ n3_ n4_ n5_ n6_; clear hb hbox hg; have hnb38 := NB128_121.out; have hnc38 := NB121_128.out; have hcz39_0 : w37.cell? ⟨gb128, 0, none⟩ = some (.int .i64 0) := (blk_cell BK128.out 0).trans rfl; have hcz39_1 : w37.cell? ⟨gb128, 1, none⟩ = some (.int .i64 0) := (blk_cell BK128.out 1).trans rfl; have hcz39_2 : w37.cell? ⟨gb128, 2, none⟩ = some (.int .i64 0) := (blk_cell BK128.out 2).trans rfl; have hcz39_3 : w37.cell? ⟨gb128, 3, none⟩ = some (.int .i64 0) := (blk_cell BK128.out 3).trans rfl; have hcz39_4 : w37.cell? ⟨gb128, 4, none⟩ = some (.int .i64 0) := (blk_cell BK128.out 4).trans rfl; have hcz39_5 : w37.cell? ⟨gb128, 5, none⟩ = some (.int .i64 0) := (blk_cell BK128.out 5).trans rfl; have hcz39_6 : w37.cell? ⟨gb128, 6, none⟩ = some (.int .i64 0) := (blk_cell BK128.out 6).trans rfl; have hcz39_7 : w37.cell? ⟨gb128, 7, none⟩ = some (.int .i64 0) := (blk_cell BK128.out 7).trans rfl; have hcz39_8 : w37.cell? ⟨gb128, 8, none⟩ = some (.int .i64 0) := (blk_cell BK128.out 8).trans rfl; have hcz39_9 : w37.cell? ⟨gb128, 9, none⟩ = some (.int .i64 0) := (blk_cell BK128.out 9).trans rfl; have hcz39_10 : w37.cell? ⟨gb128, 10, none⟩ = some (.int .i64 0) := (blk_cell BK128.out 10).trans rfl; have hcz39_11 : w37.cell? ⟨gb128, 11, none⟩ = some (.int .i64 0) := (blk_cell BK128.out 11).trans rfl; have hcz39_12 : w37.cell? ⟨gb128, 12, none⟩ = some (.int .i64 0) := (blk_cell BK128.out 12).trans rfl; have hcz39_13 : w37.cell? ⟨gb128, 13, none⟩ = some (.int .i64 0) := (blk_cell BK128.out 13).trans rfl; have hcz39_14 : w37.cell? ⟨gb128, 14, none⟩ = some (.int .i64 0) := (blk_cell BK128.out 14).trans rfl; have hfz39_0 := blk_frozen BK128.out 0; have hfz39_1 := blk_frozen BK128.out 1; have hfz39_2 := blk_frozen BK128.out 2; have hfz39_3 := blk_frozen BK128.out 3; have hfz39_4 := blk_frozen BK128.out 4; have hfz39_5 := blk_frozen BK128.out 5; have hfz39_6 := blk_frozen BK128.out 6; have hfz39_7 := blk_frozen BK128.out 7; have hfz39_8 := blk_frozen BK128.out 8; have hfz39_9 := blk_frozen BK128.out 9; have hfz39_10 := blk_frozen BK128.out 10; have hfz39_11 := blk_frozen BK128.out 11; have hfz39_12 := blk_frozen BK128.out 12; have hfz39_13 := blk_frozen BK128.out 13; have hfz39_14 := blk_frozen BK128.out 14))
               have n0_ : Aside0 ((((((((((((((((w37.setCell ⟨gb128, 0, none⟩ (.int .i64 ((rd_T26 y123 x28_2).f0))).setCell ⟨gb128, 1, none⟩ (.int .i64 ((rd_T26 y123 x28_2).f1))).setCell ⟨gb128, 2, none⟩ (.int .i64 ((rd_T26 y123 x28_2).f2.f0))).setCell ⟨gb128, 3, none⟩ (.int .i64 ((rd_T26 y123 x28_2).f2.f1))).setCell ⟨gb128, 4, none⟩ (.int .i64 ((rd_T26 y123 x28_2).f2.f2))).setCell ⟨gb128, 5, none⟩ (.int .i64 ((rd_T26 y123 x28_2).f2.f3))).setCell ⟨gb128, 6, none⟩ (.int .i64 ((rd_T26 y123 x28_2).f3.f0))).setCell ⟨gb128, 7, none⟩ (.int .i64 ((rd_T26 y123 x28_2).f3.f1))).setCell ⟨gb128, 8, none⟩ (.int .i64 ((rd_T26 y123 x28_2).f3.f2))).setCell ⟨gb128, 9, none⟩ (.int .i64 ((rd_T26 y123 x28_2).f3.f3))).setCell ⟨gb128, 10, none⟩ (.int .i64 ((rd_T26 y123 x28_2).f4.f0))).setCell ⟨gb128, 11, none⟩ (.int .i64 ((rd_T26 y123 x28_2).f4.f1))).setCell ⟨gb128, 12, none⟩ (.int .i64 ((rd_T26 y123 x28_2).f4.f2))).setCell ⟨gb128, 13, none⟩ (.int .i64 ((rd_T26 y123 x28_2).f4.f3))).setCell ⟨gb128, 14, none⟩ (.int .i64 ((rd_T26 y123 x28_2).f5))).heap[gb121]? = some (.cells #[.int .i64 t117, .int .i64 t118, .int .i64 t119, .int .i64 t120] 24 (0, 0))) := ⟨by (with_reducible repeat (first | refine blk_drewN ?_ _ | refine blk_drew ?_ | refine blk_alloc ?_ _)); refine blk_far ?_ NB121_128.out _; (with_reducible repeat (first | refine blk_drewN ?_ _ | refine blk_drew ?_ | refine blk_alloc ?_ _)); refine blk_far ?_ NB121_128.out _; (with_reducible repeat (first | refine blk_drewN ?_ _ | refine blk_drew ?_ | refine blk_alloc ?_ _)); refine blk_far ?_ NB121_128.out _; (with_reducible repeat (first | refine blk_drewN ?_ _ | refine blk_drew ?_ | refine blk_alloc ?_ _)); refine blk_far ?_ NB121_128.out _; (with_reducible repeat (first | refine blk_drewN ?_ _ | refine blk_drew ?_ | refine blk_alloc ?_ _)); refine blk_far ?_ NB121_128.out _; (with_reducible repeat (first | refine blk_drewN ?_ _ | refine blk_drew ?_ | refine blk_alloc ?_ _)); refine blk_far ?_ NB121_128.out _; (with_reducible repeat (first | refine blk_drewN ?_ _ | refine blk_drew ?_ | refine blk_alloc ?_ _)); refine blk_far ?_ NB121_128.out _; (with_reducible repeat (first | refine blk_drewN ?_ _ | refine blk_drew ?_ | refine blk_alloc ?_ _)); refine blk_far ?_ NB121_128.out _; (with_reducible repeat (first | refine blk_drewN ?_ _ | refine blk_drew ?_ | refine blk_alloc ?_ _)); refine blk_far ?_ NB121_128.out _; (with_reducible repeat (first | refine blk_drewN ?_ _ | refine blk_drew ?_ | refine blk_alloc ?_ _)); refine blk_far ?_ NB121_128.out _; (with_reducible repeat (first | refine blk_drewN ?_ _ | refine blk_drew ?_ | refine blk_alloc ?_ _)); refine blk_far ?_ NB121_128.out _; (with_reducible repeat (first | refine blk_drewN ?_ _ | refine blk_drew ?_ | refine blk_alloc ?_ _)); refine blk_far ?_ NB121_128.out _; (with_reducible repeat (first | refine blk_drewN ?_ _ | refine blk_drew ?_ | refine blk_alloc ?_ _)); refine blk_far ?_ NB121_128.out _; (with_reducible repeat (first | refine blk_drewN ?_ _ | refine blk_drew ?_ | refine blk_alloc ?_ _)); refine blk_far ?_ NB121_128.out _; (with_reducible repeat (first | refine blk_drewN ?_ _ | refine blk_drew ?_ | refine blk_alloc ?_ _)); refine blk_far ?_ NB121_128.out _; (with_reducible repeat (first | refine blk_drewN ?_ _ | refine blk_drew ?_ | refine blk_alloc ?_ _)); exact BK121.out⟩
               have n1_ : Aside0 ((((((((((((((((w37.setCell ⟨gb128, 0, none⟩ (.int .i64 ((rd_T26 y123 x28_2).f0))).setCell ⟨gb128, 1, none⟩ (.int .i64 ((rd_T26 y123 x28_2).f1))).setCell ⟨gb128, 2, none⟩ (.int .i64 ((rd_T26 y123 x28_2).f2.f0))).setCell ⟨gb128, 3, none⟩ (.int .i64 ((rd_T26 y123 x28_2).f2.f1))).setCell ⟨gb128, 4, none⟩ (.int .i64 ((rd_T26 y123 x28_2).f2.f2))).setCell ⟨gb128, 5, none⟩ (.int .i64 ((rd_T26 y123 x28_2).f2.f3))).setCell ⟨gb128, 6, none⟩ (.int .i64 ((rd_T26 y123 x28_2).f3.f0))).setCell ⟨gb128, 7, none⟩ (.int .i64 ((rd_T26 y123 x28_2).f3.f1))).setCell ⟨gb128, 8, none⟩ (.int .i64 ((rd_T26 y123 x28_2).f3.f2))).setCell ⟨gb128, 9, none⟩ (.int .i64 ((rd_T26 y123 x28_2).f3.f3))).setCell ⟨gb128, 10, none⟩ (.int .i64 ((rd_T26 y123 x28_2).f4.f0))).setCell ⟨gb128, 11, none⟩ (.int .i64 ((rd_T26 y123 x28_2).f4.f1))).setCell ⟨gb128, 12, none⟩ (.int .i64 ((rd_T26 y123 x28_2).f4.f2))).setCell ⟨gb128, 13, none⟩ (.int .i64 ((rd_T26 y123 x28_2).f4.f3))).setCell ⟨gb128, 14, none⟩ (.int .i64 ((rd_T26 y123 x28_2).f5))).heap[gb128]? = some (.cells #[.int .i64 ((rd_T26 y123 x28_2).f0), .int .i64 ((rd_T26 y123 x28_2).f1), .int .i64 ((rd_T26 y123 x28_2).f2.f0), .int .i64 ((rd_T26 y123 x28_2).f2.f1), .int .i64 ((rd_T26 y123 x28_2).f2.f2), .int .i64 ((rd_T26 y123 x28_2).f2.f3), .int .i64 ((rd_T26 y123 x28_2).f3.f0), .int .i64 ((rd_T26 y123 x28_2).f3.f1), .int .i64 ((rd_T26 y123 x28_2).f3.f2), .int .i64 ((rd_T26 y123 x28_2).f3.f3), .int .i64 ((rd_T26 y123 x28_2).f4.f0), .int .i64 ((rd_T26 y123 x28_2).f4.f1), .int .i64 ((rd_T26 y123 x28_2).f4.f2), .int .i64 ((rd_T26 y123 x28_2).f4.f3), .int .i64 ((rd_T26 y123 x28_2).f5)] 26 (0, 0))) := ⟨by (with_reducible repeat (first | refine blk_drewN ?_ _ | refine blk_drew ?_ | refine blk_alloc ?_ _)); refine blk_put (cs := #[.int .i64 ((rd_T26 y123 x28_2).f0), .int .i64 ((rd_T26 y123 x28_2).f1), .int .i64 ((rd_T26 y123 x28_2).f2.f0), .int .i64 ((rd_T26 y123 x28_2).f2.f1), .int .i64 ((rd_T26 y123 x28_2).f2.f2), .int .i64 ((rd_T26 y123 x28_2).f2.f3), .int .i64 ((rd_T26 y123 x28_2).f3.f0), .int .i64 ((rd_T26 y123 x28_2).f3.f1), .int .i64 ((rd_T26 y123 x28_2).f3.f2), .int .i64 ((rd_T26 y123 x28_2).f3.f3), .int .i64 ((rd_T26 y123 x28_2).f4.f0), .int .i64 ((rd_T26 y123 x28_2).f4.f1), .int .i64 ((rd_T26 y123 x28_2).f4.f2), .int .i64 ((rd_T26 y123 x28_2).f4.f3), .int .i64 0]) ?_ 14 _ rfl; (with_reducible repeat (first | refine blk_drewN ?_ _ | refine blk_drew ?_ | refine blk_alloc ?_ _)); refine blk_put (cs := #[.int .i64 ((rd_T26 y123 x28_2).f0), .int .i64 ((rd_T26 y123 x28_2).f1), .int .i64 ((rd_T26 y123 x28_2).f2.f0), .int .i64 ((rd_T26 y123 x28_2).f2.f1), .int .i64 ((rd_T26 y123 x28_2).f2.f2), .int .i64 ((rd_T26 y123 x28_2).f2.f3), .int .i64 ((rd_T26 y123 x28_2).f3.f0), .int .i64 ((rd_T26 y123 x28_2).f3.f1), .int .i64 ((rd_T26 y123 x28_2).f3.f2), .int .i64 ((rd_T26 y123 x28_2).f3.f3), .int .i64 ((rd_T26 y123 x28_2).f4.f0), .int .i64 ((rd_T26 y123 x28_2).f4.f1), .int .i64 ((rd_T26 y123 x28_2).f4.f2), .int .i64 0, .int .i64 0]) ?_ 13 _ rfl; (with_reducible repeat (first | refine blk_drewN ?_ _ | refine blk_drew ?_ | refine blk_alloc ?_ _)); refine blk_put (cs := #[.int .i64 ((rd_T26 y123 x28_2).f0), .int .i64 ((rd_T26 y123 x28_2).f1), .int .i64 ((rd_T26 y123 x28_2).f2.f0), .int .i64 ((rd_T26 y123 x28_2).f2.f1), .int .i64 ((rd_T26 y123 x28_2).f2.f2), .int .i64 ((rd_T26 y123 x28_2).f2.f3), .int .i64 ((rd_T26 y123 x28_2).f3.f0), .int .i64 ((rd_T26 y123 x28_2).f3.f1), .int .i64 ((rd_T26 y123 x28_2).f3.f2), .int .i64 ((rd_T26 y123 x28_2).f3.f3), .int .i64 ((rd_T26 y123 x28_2).f4.f0), .int .i64 ((rd_T26 y123 x28_2).f4.f1), .int .i64 0, .int .i64 0, .int .i64 0]) ?_ 12 _ rfl; (with_reducible repeat (first | refine blk_drewN ?_ _ | refine blk_drew ?_ | refine blk_alloc ?_ _)); refine blk_put (cs := #[.int .i64 ((rd_T26 y123 x28_2).f0), .int .i64 ((rd_T26 y123 x28_2).f1), .int .i64 ((rd_T26 y123 x28_2).f2.f0), .int .i64 ((rd_T26 y123 x28_2).f2.f1), .int .i64 ((rd_T26 y123 x28_2).f2.f2), .int .i64 ((rd_T26 y123 x28_2).f2.f3), .int .i64 ((rd_T26 y123 x28_2).f3.f0), .int .i64 ((rd_T26 y123 x28_2).f3.f1), .int .i64 ((rd_T26 y123 x28_2).f3.f2), .int .i64 ((rd_T26 y123 x28_2).f3.f3), .int .i64 ((rd_T26 y123 x28_2).f4.f0), .int .i64 0, .int .i64 0, .int .i64 0, .int .i64 0]) ?_ 11 _ rfl; (with_reducible repeat (first | refine blk_drewN ?_ _ | refine blk_drew ?_ | refine blk_alloc ?_ _)); refine blk_put (cs := #[.int .i64 ((rd_T26 y123 x28_2).f0), .int .i64 ((rd_T26 y123 x28_2).f1), .int .i64 ((rd_T26 y123 x28_2).f2.f0), .int .i64 ((rd_T26 y123 x28_2).f2.f1), .int .i64 ((rd_T26 y123 x28_2).f2.f2), .int .i64 ((rd_T26 y123 x28_2).f2.f3), .int .i64 ((rd_T26 y123 x28_2).f3.f0), .int .i64 ((rd_T26 y123 x28_2).f3.f1), .int .i64 ((rd_T26 y123 x28_2).f3.f2), .int .i64 ((rd_T26 y123 x28_2).f3.f3), .int .i64 0, .int .i64 0, .int .i64 0, .int .i64 0, .int .i64 0]) ?_ 10 _ rfl; (with_reducible repeat (first | refine blk_drewN ?_ _ | refine blk_drew ?_ | refine blk_alloc ?_ _)); refine blk_put (cs := #[.int .i64 ((rd_T26 y123 x28_2).f0), .int .i64 ((rd_T26 y123 x28_2).f1), .int .i64 ((rd_T26 y123 x28_2).f2.f0), .int .i64 ((rd_T26 y123 x28_2).f2.f1), .int .i64 ((rd_T26 y123 x28_2).f2.f2), .int .i64 ((rd_T26 y123 x28_2).f2.f3), .int .i64 ((rd_T26 y123 x28_2).f3.f0), .int .i64 ((rd_T26 y123 x28_2).f3.f1), .int .i64 ((rd_T26 y123 x28_2).f3.f2), .int .i64 0, .int .i64 0, .int .i64 0, .int .i64 0, .int .i64 0, .int .i64 0]) ?_ 9 _ rfl; (with_reducible repeat (first | refine blk_drewN ?_ _ | refine blk_drew ?_ | refine blk_alloc ?_ _)); refine blk_put (cs := #[.int .i64 ((rd_T26 y123 x28_2).f0), .int .i64 ((rd_T26 y123 x28_2).f1), .int .i64 ((rd_T26 y123 x28_2).f2.f0), .int .i64 ((rd_T26 y123 x28_2).f2.f1), .int .i64 ((rd_T26 y123 x28_2).f2.f2), .int .i64 ((rd_T26 y123 x28_2).f2.f3), .int .i64 ((rd_T26 y123 x28_2).f3.f0), .int .i64 ((rd_T26 y123 x28_2).f3.f1), .int .i64 0, .int .i64 0, .int .i64 0, .int .i64 0, .int .i64 0, .int .i64 0, .int .i64 0]) ?_ 8 _ rfl; (with_reducible repeat (first | refine blk_drewN ?_ _ | refine blk_drew ?_ | refine blk_alloc ?_ _)); refine blk_put (cs := #[.int .i64 ((rd_T26 y123 x28_2).f0), .int .i64 ((rd_T26 y123 x28_2).f1), .int .i64 ((rd_T26 y123 x28_2).f2.f0), .int .i64 ((rd_T26 y123 x28_2).f2.f1), .int .i64 ((rd_T26 y123 x28_2).f2.f2), .int .i64 ((rd_T26 y123 x28_2).f2.f3), .int .i64 ((rd_T26 y123 x28_2).f3.f0), .int .i64 0, .int .i64 0, .int .i64 0, .int .i64 0, .int .i64 0, .int .i64 0, .int .i64 0, .int .i64 0]) ?_ 7 _ rfl; (with_reducible repeat (first | refine blk_drewN ?_ _ | refine blk_drew ?_ | refine blk_alloc ?_ _)); refine blk_put (cs := #[.int .i64 ((rd_T26 y123 x28_2).f0), .int .i64 ((rd_T26 y123 x28_2).f1), .int .i64 ((rd_T26 y123 x28_2).f2.f0), .int .i64 ((rd_T26 y123 x28_2).f2.f1), .int .i64 ((rd_T26 y123 x28_2).f2.f2), .int .i64 ((rd_T26 y123 x28_2).f2.f3), .int .i64 0, .int .i64 0, .int .i64 0, .int .i64 0, .int .i64 0, .int .i64 0, .int .i64 0, .int .i64 0, .int .i64 0]) ?_ 6 _ rfl; (with_reducible repeat (first | refine blk_drewN ?_ _ | refine blk_drew ?_ | refine blk_alloc ?_ _)); refine blk_put (cs := #[.int .i64 ((rd_T26 y123 x28_2).f0), .int .i64 ((rd_T26 y123 x28_2).f1), .int .i64 ((rd_T26 y123 x28_2).f2.f0), .int .i64 ((rd_T26 y123 x28_2).f2.f1), .int .i64 ((rd_T26 y123 x28_2).f2.f2), .int .i64 0, .int .i64 0, .int .i64 0, .int .i64 0, .int .i64 0, .int .i64 0, .int .i64 0, .int .i64 0, .int .i64 0, .int .i64 0]) ?_ 5 _ rfl; (with_reducible repeat (first | refine blk_drewN ?_ _ | refine blk_drew ?_ | refine blk_alloc ?_ _)); refine blk_put (cs := #[.int .i64 ((rd_T26 y123 x28_2).f0), .int .i64 ((rd_T26 y123 x28_2).f1), .int .i64 ((rd_T26 y123 x28_2).f2.f0), .int .i64 ((rd_T26 y123 x28_2).f2.f1), .int .i64 0, .int .i64 0, .int .i64 0, .int .i64 0, .int .i64 0, .int .i64 0, .int .i64 0, .int .i64 0, .int .i64 0, .int .i64 0, .int .i64 0]) ?_ 4 _ rfl; (with_reducible repeat (first | refine blk_drewN ?_ _ | refine blk_drew ?_ | refine blk_alloc ?_ _)); refine blk_put (cs := #[.int .i64 ((rd_T26 y123 x28_2).f0), .int .i64 ((rd_T26 y123 x28_2).f1), .int .i64 ((rd_T26 y123 x28_2).f2.f0), .int .i64 0, .int .i64 0, .int .i64 0, .int .i64 0, .int .i64 0, .int .i64 0, .int .i64 0, .int .i64 0, .int .i64 0, .int .i64 0, .int .i64 0, .int .i64 0]) ?_ 3 _ rfl; (with_reducible repeat (first | refine blk_drewN ?_ _ | refine blk_drew ?_ | refine blk_alloc ?_ _)); refine blk_put (cs := #[.int .i64 ((rd_T26 y123 x28_2).f0), .int .i64 ((rd_T26 y123 x28_2).f1), .int .i64 0, .int .i64 0, .int .i64 0, .int .i64 0, .int .i64 0, .int .i64 0, .int .i64 0, .int .i64 0, .int .i64 0, .int .i64 0, .int .i64 0, .int .i64 0, .int .i64 0]) ?_ 2 _ rfl; (with_reducible repeat (first | refine blk_drewN ?_ _ | refine blk_drew ?_ | refine blk_alloc ?_ _)); refine blk_put (cs := #[.int .i64 ((rd_T26 y123 x28_2).f0), .int .i64 0, .int .i64 0, .int .i64 0, .int .i64 0, .int .i64 0, .int .i64 0, .int .i64 0, .int .i64 0, .int .i64 0, .int .i64 0, .int .i64 0, .int .i64 0, .int .i64 0, .int .i64 0]) ?_ 1 _ rfl; (with_reducible repeat (first | refine blk_drewN ?_ _ | refine blk_drew ?_ | refine blk_alloc ?_ _)); refine blk_put (cs := #[.int .i64 0, .int .i64 0, .int .i64 0, .int .i64 0, .int .i64 0, .int .i64 0, .int .i64 0, .int .i64 0, .int .i64 0, .int .i64 0, .int .i64 0, .int .i64 0, .int .i64 0, .int .i64 0, .int .i64 0]) ?_ 0 _ rfl; (with_reducible repeat (first | refine blk_drewN ?_ _ | refine blk_drew ?_ | refine blk_alloc ?_ _)); exact BK128.out⟩
               have n2_ : Aside0 (Below w.heap.size w (((((((((((((((w37.setCell ⟨gb128, 0, none⟩ (.int .i64 ((rd_T26 y123 x28_2).f0))).setCell ⟨gb128, 1, none⟩ (.int .i64 ((rd_T26 y123 x28_2).f1))).setCell ⟨gb128, 2, none⟩ (.int .i64 ((rd_T26 y123 x28_2).f2.f0))).setCell ⟨gb128, 3, none⟩ (.int .i64 ((rd_T26 y123 x28_2).f2.f1))).setCell ⟨gb128, 4, none⟩ (.int .i64 ((rd_T26 y123 x28_2).f2.f2))).setCell ⟨gb128, 5, none⟩ (.int .i64 ((rd_T26 y123 x28_2).f2.f3))).setCell ⟨gb128, 6, none⟩ (.int .i64 ((rd_T26 y123 x28_2).f3.f0))).setCell ⟨gb128, 7, none⟩ (.int .i64 ((rd_T26 y123 x28_2).f3.f1))).setCell ⟨gb128, 8, none⟩ (.int .i64 ((rd_T26 y123 x28_2).f3.f2))).setCell ⟨gb128, 9, none⟩ (.int .i64 ((rd_T26 y123 x28_2).f3.f3))).setCell ⟨gb128, 10, none⟩ (.int .i64 ((rd_T26 y123 x28_2).f4.f0))).setCell ⟨gb128, 11, none⟩ (.int .i64 ((rd_T26 y123 x28_2).f4.f1))).setCell ⟨gb128, 12, none⟩ (.int .i64 ((rd_T26 y123 x28_2).f4.f2))).setCell ⟨gb128, 13, none⟩ (.int .i64 ((rd_T26 y123 x28_2).f4.f3))).setCell ⟨gb128, 14, none⟩ (.int .i64 ((rd_T26 y123 x28_2).f5)))) := ⟨by repeat (first | (with_reducible first | exact HB.out | apply below_alloc | apply pw_below_drewN | apply below_drew1 | refine below_set ?_ GE121.out | refine below_set ?_ GE128.out) | exact HB.out)⟩
               (try clear BK121)
               (try clear BK128)
               (try clear HB)
               generalize (((((((((((((((w37.setCell ⟨gb128, 0, none⟩ (.int .i64 ((rd_T26 y123 x28_2).f0))).setCell ⟨gb128, 1, none⟩ (.int .i64 ((rd_T26 y123 x28_2).f1))).setCell ⟨gb128, 2, none⟩ (.int .i64 ((rd_T26 y123 x28_2).f2.f0))).setCell ⟨gb128, 3, none⟩ (.int .i64 ((rd_T26 y123 x28_2).f2.f1))).setCell ⟨gb128, 4, none⟩ (.int .i64 ((rd_T26 y123 x28_2).f2.f2))).setCell ⟨gb128, 5, none⟩ (.int .i64 ((rd_T26 y123 x28_2).f2.f3))).setCell ⟨gb128, 6, none⟩ (.int .i64 ((rd_T26 y123 x28_2).f3.f0))).setCell ⟨gb128, 7, none⟩ (.int .i64 ((rd_T26 y123 x28_2).f3.f1))).setCell ⟨gb128, 8, none⟩ (.int .i64 ((rd_T26 y123 x28_2).f3.f2))).setCell ⟨gb128, 9, none⟩ (.int .i64 ((rd_T26 y123 x28_2).f3.f3))).setCell ⟨gb128, 10, none⟩ (.int .i64 ((rd_T26 y123 x28_2).f4.f0))).setCell ⟨gb128, 11, none⟩ (.int .i64 ((rd_T26 y123 x28_2).f4.f1))).setCell ⟨gb128, 12, none⟩ (.int .i64 ((rd_T26 y123 x28_2).f4.f2))).setCell ⟨gb128, 13, none⟩ (.int .i64 ((rd_T26 y123 x28_2).f4.f3))).setCell ⟨gb128, 14, none⟩ (.int .i64 ((rd_T26 y123 x28_2).f5))) = w40 at n0_ n1_ n2_ ⊢
               have BK121 := n0_
               have BK128 := n1_
               have HB := n2_
               clear n0_ n1_ n2_
               have n0_ := Aside0.mk (blk_drew BK121.out)
               have n1_ := Aside0.mk (blk_drew BK128.out)
               have n2_ := Aside0.mk (below_drew1 HB.out)
               clear BK121
               clear BK128
               clear HB
               have BK121 := n0_
               have BK128 := n1_
               have HB := n2_
               clear n0_ n1_ n2_
               refine start_ (n := 9) (S := fun w' => w'.cell? ⟨gb128, 0, none⟩ = some (.int .i64 ((rd_T26 y123 x28_2).f0)) ∧ w'.cell? ⟨gb128, 1, none⟩ = some (.int .i64 ((rd_T26 y123 x28_2).f1)) ∧ w'.cell? ⟨gb128, 2, none⟩ = some (.int .i64 ((rd_T26 y123 x28_2).f2.f0)) ∧ w'.cell? ⟨gb128, 3, none⟩ = some (.int .i64 ((rd_T26 y123 x28_2).f2.f1)) ∧ w'.cell? ⟨gb128, 4, none⟩ = some (.int .i64 ((rd_T26 y123 x28_2).f2.f2)) ∧ w'.cell? ⟨gb128, 5, none⟩ = some (.int .i64 ((rd_T26 y123 x28_2).f2.f3)) ∧ w'.cell? ⟨gb128, 6, none⟩ = some (.int .i64 ((rd_T26 y123 x28_2).f3.f0)) ∧ w'.cell? ⟨gb128, 7, none⟩ = some (.int .i64 ((rd_T26 y123 x28_2).f3.f1)) ∧ w'.cell? ⟨gb128, 8, none⟩ = some (.int .i64 ((rd_T26 y123 x28_2).f3.f2)) ∧ w'.cell? ⟨gb128, 9, none⟩ = some (.int .i64 ((rd_T26 y123 x28_2).f3.f3)) ∧ w'.cell? ⟨gb128, 10, none⟩ = some (.int .i64 ((rd_T26 y123 x28_2).f4.f0)) ∧ w'.cell? ⟨gb128, 11, none⟩ = some (.int .i64 ((rd_T26 y123 x28_2).f4.f1)) ∧ w'.cell? ⟨gb128, 12, none⟩ = some (.int .i64 ((rd_T26 y123 x28_2).f4.f2)) ∧ w'.cell? ⟨gb128, 13, none⟩ = some (.int .i64 ((rd_T26 y123 x28_2).f4.f3)) ∧ w'.cell? ⟨gb128, 14, none⟩ = some (.int .i64 ((rd_T26 y123 x28_2).f5)) ∧ w'.cell? ⟨gb121, 0, none⟩ = some (.int .i64 t117) ∧ w'.cell? ⟨gb121, 1, none⟩ = some (.int .i64 t118) ∧ w'.cell? ⟨gb121, 2, none⟩ = some (.int .i64 t119) ∧ w'.cell? ⟨gb121, 3, none⟩ = some (.int .i64 t120)) (ds := []) #[false, false, false, false, false, false, false, false, false] (by kernel_rfl) rfl rfl ⟨(blk_cell BK128.out 0).trans rfl, (blk_cell BK128.out 1).trans rfl, (blk_cell BK128.out 2).trans rfl, (blk_cell BK128.out 3).trans rfl, (blk_cell BK128.out 4).trans rfl, (blk_cell BK128.out 5).trans rfl, (blk_cell BK128.out 6).trans rfl, (blk_cell BK128.out 7).trans rfl, (blk_cell BK128.out 8).trans rfl, (blk_cell BK128.out 9).trans rfl, (blk_cell BK128.out 10).trans rfl, (blk_cell BK128.out 11).trans rfl, (blk_cell BK128.out 12).trans rfl, (blk_cell BK128.out 13).trans rfl, (blk_cell BK128.out 14).trans rfl, (blk_cell BK121.out 0).trans rfl, (blk_cell BK121.out 1).trans rfl, (blk_cell BK121.out 2).trans rfl, (blk_cell BK121.out 3).trans rfl⟩ (fun hHeld => ?_); refine with_tabW cull_Hidden.tab9 cull_Hidden.bits9 (fun HT_ HW_ => ?_)
               generalize w40.drew = w41 at BK121 BK128 HB hHeld ⊢
               refine pure_ (i := 0) (N := some 32) (v := ?_) (a' := ?_) #[true, false, false, false, false, false, false, false, false] rfl rfl (any_of HT_.out (by kernel_rfl)) (fun _ _ _ h => h) (Or.inl ⟨by rfl, ?_⟩) ?_ ?_
               rotate_left
               ·intro w'
                go_simp
                with_reducible rfl
               rotate_left
               ·simp only [Act.put, List.setIfInBounds_toArray, List.set_cons_zero, List.set_cons_succ, i64_w, i32_w]
                rfl
               refine take_ (i := 1) (N := some 33) (v := ?_) (a' := ?_) #[true, true, false, false, false, false, false, false, false] rfl rfl (take_ofW HT_.out HW_.out (by kernel_rfl)) (fun _ _ _ h => h) (Or.inl ⟨by rfl, ?_⟩) hHeld ?_ ?_
               rotate_left
               ·rintro w' ⟨s0, s1, s2, s3, s4, s5, s6, s7, s8, s9, s10, s11, s12, s13, s14, s15, s16, s17, s18⟩
                go_simp
                with_reducible rfl
               rotate_left
               ·simp only [Act.put, List.setIfInBounds_toArray, List.set_cons_zero, List.set_cons_succ, i64_w, i32_w]
                rfl
               refine pure_ (i := 2) (N := some 34) (v := ?_) (a' := ?_) #[true, true, true, false, false, false, false, false, false] rfl rfl (any_of HT_.out (by kernel_rfl)) (fun _ _ _ h => h) (Or.inl ⟨by rfl, ?_⟩) ?_ ?_
               rotate_left
               ·intro w'
                go_simp
                with_reducible rfl
               rotate_left
               ·simp only [Act.put, List.setIfInBounds_toArray, List.set_cons_zero, List.set_cons_succ, i64_w, i32_w]
                rfl
               refine pure_ (i := 3) (N := some 35) (v := ?_) (a' := ?_) #[true, true, true, true, false, false, false, false, false] rfl rfl (any_of HT_.out (by kernel_rfl)) (fun _ _ _ h => h) (Or.inl ⟨by rfl, ?_⟩) ?_ ?_
               rotate_left
               ·intro w'
                go_simp
                with_reducible rfl
               rotate_left
               ·simp only [Act.put, List.setIfInBounds_toArray, List.set_cons_zero, List.set_cons_succ, i64_w, i32_w]
                rfl
               refine take_ (i := 4) (N := some 36) (v := ?_) (a' := ?_) #[true, true, true, true, true, false, false, false, false] rfl rfl (take_ofW HT_.out HW_.out (by kernel_rfl)) (fun _ _ _ h => h) (Or.inl ⟨by rfl, ?_⟩) hHeld ?_ ?_
               rotate_left
               ·rintro w' ⟨s0, s1, s2, s3, s4, s5, s6, s7, s8, s9, s10, s11, s12, s13, s14, s15, s16, s17, s18⟩
                go_simp
                with_reducible rfl
               rotate_left
               ·simp only [Act.put, List.setIfInBounds_toArray, List.set_cons_zero, List.set_cons_succ, i64_w, i32_w]
                rfl
               refine take_ (i := 5) (N := some 37) (v := ?_) (a' := ?_) #[true, true, true, true, true, true, false, false, false] rfl rfl (take_ofW HT_.out HW_.out (by kernel_rfl)) (fun _ _ _ h => h) (Or.inl ⟨by rfl, ?_⟩) hHeld ?_ ?_
               rotate_left
               ·rintro w' ⟨s0, s1, s2, s3, s4, s5, s6, s7, s8, s9, s10, s11, s12, s13, s14, s15, s16, s17, s18⟩
                go_simp
                with_reducible rfl
               rotate_left
               ·simp only [Act.put, List.setIfInBounds_toArray, List.set_cons_zero, List.set_cons_succ, i64_w, i32_w]
                rfl
               refine one_ (i := 6) (N := some 38) #[true, true, true, true, true, true, true, false, false] rfl rfl (one_of HT_.out (by kernel_rfl)) (by decide) (fun K hK => ?_)
               refine goes_ Try.func22 (by kernel_rfl) rfl #[.agg #[.int .i64 ((rd_T26 y123 x28_2).f0), .int .i64 ((rd_T26 y123 x28_2).f1), .int .i64 ((rd_T26 y123 x28_2).f2.f0), .int .i64 ((rd_T26 y123 x28_2).f2.f1), .int .i64 ((rd_T26 y123 x28_2).f2.f2), .int .i64 ((rd_T26 y123 x28_2).f2.f3), .int .i64 ((rd_T26 y123 x28_2).f3.f0), .int .i64 ((rd_T26 y123 x28_2).f3.f1), .int .i64 ((rd_T26 y123 x28_2).f3.f2), .int .i64 ((rd_T26 y123 x28_2).f3.f3), .int .i64 ((rd_T26 y123 x28_2).f4.f0), .int .i64 ((rd_T26 y123 x28_2).f4.f1), .int .i64 ((rd_T26 y123 x28_2).f4.f2), .int .i64 ((rd_T26 y123 x28_2).f4.f3), .int .i64 ((rd_T26 y123 x28_2).f5)]] (by rfl) rfl rfl (by (try simp only [List.map_toArray, List.map_cons, List.map_nil]); first | done | rfl | (simp only [List.length_drop, List.length_take]; rfl)) ?_
               with_reducible refine (owner_Seen.calls ((rd_T26 y123 x28_2).f0) ((rd_T26 y123 x28_2).f1) ((rd_T26 y123 x28_2).f2.f0) ((rd_T26 y123 x28_2).f2.f1) ((rd_T26 y123 x28_2).f2.f2) ((rd_T26 y123 x28_2).f2.f3) ((rd_T26 y123 x28_2).f3.f0) ((rd_T26 y123 x28_2).f3.f1) ((rd_T26 y123 x28_2).f3.f2) ((rd_T26 y123 x28_2).f3.f3) ((rd_T26 y123 x28_2).f4.f0) ((rd_T26 y123 x28_2).f4.f1) ((rd_T26 y123 x28_2).f4.f2) ((rd_T26 y123 x28_2).f4.f3) ((rd_T26 y123 x28_2).f5) t129 t130 t131 t132 _ A27.out).mono ?_
               rintro e w42 ⟨rfl, hb⟩
               refine ⟨_, rfl, ?_⟩
               have n0_ := Aside0.mk (blk_below (g := gb121) (o := .cells #[.int .i64 t117, .int .i64 t118, .int .i64 t119, .int .i64 t120] 24 (0, 0)) (by (with_reducible repeat (first | refine blk_drewN ?_ _ | refine blk_drew ?_ | refine blk_alloc ?_ _)); exact BK121.out) hb)
               have n1_ := Aside0.mk (blk_below (g := gb128) (o := .cells #[.int .i64 ((rd_T26 y123 x28_2).f0), .int .i64 ((rd_T26 y123 x28_2).f1), .int .i64 ((rd_T26 y123 x28_2).f2.f0), .int .i64 ((rd_T26 y123 x28_2).f2.f1), .int .i64 ((rd_T26 y123 x28_2).f2.f2), .int .i64 ((rd_T26 y123 x28_2).f2.f3), .int .i64 ((rd_T26 y123 x28_2).f3.f0), .int .i64 ((rd_T26 y123 x28_2).f3.f1), .int .i64 ((rd_T26 y123 x28_2).f3.f2), .int .i64 ((rd_T26 y123 x28_2).f3.f3), .int .i64 ((rd_T26 y123 x28_2).f4.f0), .int .i64 ((rd_T26 y123 x28_2).f4.f1), .int .i64 ((rd_T26 y123 x28_2).f4.f2), .int .i64 ((rd_T26 y123 x28_2).f4.f3), .int .i64 ((rd_T26 y123 x28_2).f5)] 26 (0, 0)) (by (with_reducible repeat (first | refine blk_drewN ?_ _ | refine blk_drew ?_ | refine blk_alloc ?_ _)); exact BK128.out) hb)
               have n2_ := Aside0.mk (below_step (by repeat (first | (with_reducible first | exact HB.out | apply below_alloc | apply pw_below_drewN | apply below_drew1 | refine below_set ?_ GE121.out | refine below_set ?_ GE128.out) | exact HB.out)) hb)
               clear BK121
               clear BK128
               clear HB
               have BK121 := n0_
               have BK128 := n1_
               have HB := n2_
               clear n0_ n1_ n2_
               (try clear hb)
               (try clear hb2)
               (try clear hk)
               (try clear hi)
               refine hK.out _ _ ⟨(blk_cell BK128.out 0).trans rfl, (blk_cell BK128.out 1).trans rfl, (blk_cell BK128.out 2).trans rfl, (blk_cell BK128.out 3).trans rfl, (blk_cell BK128.out 4).trans rfl, (blk_cell BK128.out 5).trans rfl, (blk_cell BK128.out 6).trans rfl, (blk_cell BK128.out 7).trans rfl, (blk_cell BK128.out 8).trans rfl, (blk_cell BK128.out 9).trans rfl, (blk_cell BK128.out 10).trans rfl, (blk_cell BK128.out 11).trans rfl, (blk_cell BK128.out 12).trans rfl, (blk_cell BK128.out 13).trans rfl, (blk_cell BK128.out 14).trans rfl, (blk_cell BK121.out 0).trans rfl, (blk_cell BK121.out 1).trans rfl, (blk_cell BK121.out 2).trans rfl, (blk_cell BK121.out 3).trans rfl⟩ (fun hHeld => ?_)
               clear hK K
               refine norm_ (a' := ?_) ?_ ?_
               rotate_left
               ·show Act.put _ (some 38) _ = _
                simp only [Act.put, List.setIfInBounds_toArray, List.set_cons_zero, List.set_cons_succ, i64_w, i32_w]
                rfl
               refine one_ (i := 7) (N := some 39) #[true, true, true, true, true, true, true, true, false] rfl rfl (one_of HT_.out (by kernel_rfl)) (by decide) (fun K hK => ?_)
               refine goes_ Try.func54 (by kernel_rfl) rfl #[.agg #[.int .i64 t117, .int .i64 t118, .int .i64 t119, .int .i64 t120], .agg #[.int .i64 t129, .int .i64 t130, .int .i64 t131, .int .i64 t132]] (by rfl) rfl rfl (by (try simp only [List.map_toArray, List.map_cons, List.map_nil]); first | done | rfl | (simp only [List.length_drop, List.length_take]; rfl)) ?_
               with_reducible refine (rect_Inside.calls t117 t118 t119 t120 t129 t130 t131 t132 t133 _ A28.out).mono ?_
               rintro e w43 ⟨rfl, hb⟩
               refine ⟨_, rfl, ?_⟩
               have n0_ := Aside0.mk (blk_below (g := gb121) (o := .cells #[.int .i64 t117, .int .i64 t118, .int .i64 t119, .int .i64 t120] 24 (0, 0)) (by (with_reducible repeat (first | refine blk_drewN ?_ _ | refine blk_drew ?_ | refine blk_alloc ?_ _)); exact BK121.out) hb)
               have n1_ := Aside0.mk (blk_below (g := gb128) (o := .cells #[.int .i64 ((rd_T26 y123 x28_2).f0), .int .i64 ((rd_T26 y123 x28_2).f1), .int .i64 ((rd_T26 y123 x28_2).f2.f0), .int .i64 ((rd_T26 y123 x28_2).f2.f1), .int .i64 ((rd_T26 y123 x28_2).f2.f2), .int .i64 ((rd_T26 y123 x28_2).f2.f3), .int .i64 ((rd_T26 y123 x28_2).f3.f0), .int .i64 ((rd_T26 y123 x28_2).f3.f1), .int .i64 ((rd_T26 y123 x28_2).f3.f2), .int .i64 ((rd_T26 y123 x28_2).f3.f3), .int .i64 ((rd_T26 y123 x28_2).f4.f0), .int .i64 ((rd_T26 y123 x28_2).f4.f1), .int .i64 ((rd_T26 y123 x28_2).f4.f2), .int .i64 ((rd_T26 y123 x28_2).f4.f3), .int .i64 ((rd_T26 y123 x28_2).f5)] 26 (0, 0)) (by (with_reducible repeat (first | refine blk_drewN ?_ _ | refine blk_drew ?_ | refine blk_alloc ?_ _)); exact BK128.out) hb)
               have n2_ := Aside0.mk (below_step (by repeat (first | (with_reducible first | exact HB.out | apply below_alloc | apply pw_below_drewN | apply below_drew1 | refine below_set ?_ GE121.out | refine below_set ?_ GE128.out) | exact HB.out)) hb)
               clear BK121
               clear BK128
               clear HB
               have BK121 := n0_
               have BK128 := n1_
               have HB := n2_
               clear n0_ n1_ n2_
               (try clear hb)
               (try clear hb2)
               (try clear hk)
               (try clear hi)
               refine hK.out _ _ ⟨(blk_cell BK128.out 0).trans rfl, (blk_cell BK128.out 1).trans rfl, (blk_cell BK128.out 2).trans rfl, (blk_cell BK128.out 3).trans rfl, (blk_cell BK128.out 4).trans rfl, (blk_cell BK128.out 5).trans rfl, (blk_cell BK128.out 6).trans rfl, (blk_cell BK128.out 7).trans rfl, (blk_cell BK128.out 8).trans rfl, (blk_cell BK128.out 9).trans rfl, (blk_cell BK128.out 10).trans rfl, (blk_cell BK128.out 11).trans rfl, (blk_cell BK128.out 12).trans rfl, (blk_cell BK128.out 13).trans rfl, (blk_cell BK128.out 14).trans rfl, (blk_cell BK121.out 0).trans rfl, (blk_cell BK121.out 1).trans rfl, (blk_cell BK121.out 2).trans rfl, (blk_cell BK121.out 3).trans rfl⟩ (fun hHeld => ?_)
               clear hK K
               refine norm_ (a' := ?_) ?_ ?_
               rotate_left
               ·show Act.put _ (some 39) _ = _
                simp only [Act.put, List.setIfInBounds_toArray, List.set_cons_zero, List.set_cons_succ, i64_w, i32_w]
                rfl
               refine pure_ (i := 8) (N := some 40) (v := ?_) (a' := ?_) #[true, true, true, true, true, true, true, true, true] rfl rfl (any_of HT_.out (by kernel_rfl)) (fun _ _ _ h => h) (Or.inl ⟨by rfl, ?_⟩) ?_ ?_
               rotate_left
               ·intro w'
                go_simp
                with_reducible rfl
               rotate_left
               ·simp only [Act.put, List.setIfInBounds_toArray, List.set_cons_zero, List.set_cons_succ, i64_w, i32_w]
                rfl
               refine done_ (done_of HT_.out (by kernel_rfl)) ?_
               by_cases c29 : t133 = true
               ·have H := HM.out
                clear HM
                subst c29
                have H1 : (some true) = some r := by rw [if_pos rfl] at H; exact H
                clear H
                have H := H1
                clear H1
                obtain rfl := Option.some.inj H
                try go_wp2
                go_ret
                exact ⟨by first | rfl | (simp [errW_none, errW_some] <;> rfl) | (simp only [← hji15]; first | rfl | (simp [errW_none, errW_some] <;> rfl)) | (simp [*, errW_none, errW_some] <;> rfl), by repeat (first | (with_reducible first | exact HB.out | apply below_alloc | apply pw_below_drewN | apply below_drew1 | refine below_set ?_ GE121.out | refine below_set ?_ GE128.out) | exact HB.out)⟩
               ·have H := HM.out
                clear HM
                replace c29 := Bool.eq_false_iff.mpr c29
                subst c29
                have H1 : (cull_Hidden.l0 k2 y123 (y123.length : Int) (wrap64 (x28_2 + 1)) t117 t118 t119 t120) = some r := by rw [if_neg (show ¬ (false = true) by decide)] at H; exact H
                clear H
                have H := H1
                clear H1
                have H' := Aside0.mk H
                clear H
                try go_wp2
                go_roundg k2
                case measure => have := HJ2.out; have := HK2.out; omega
                case rel => exact ⟨(wrap64 (x28_2 + 1)), (by first | rfl | (simp; done) | (simp [*]; done)), H', ⟨by have := HJ2.out; have := HK2.out; omega⟩, ⟨by (with_reducible repeat (first | refine blk_drewN ?_ _ | refine blk_drew ?_ | refine blk_alloc ?_ _)); exact BK121.out⟩, ⟨by repeat (first | (with_reducible first | exact HB.out | apply below_alloc | apply pw_below_drewN | apply below_drew1 | refine below_set ?_ GE121.out | refine below_set ?_ GE128.out) | exact HB.out)⟩⟩
              ·rw [if_neg c26] at H
               have c26b0 : (((rd_T26 y123 x28_2).f1) == 0) = false := beq_eq_false_iff_ne.mpr c26
               have c26b1 : (((rd_T26 y123 x28_2).f1) != 0) = true := bne_iff_ne.mpr c26
               have H' := Aside0.mk H
               clear H
               have p127 : 0 ≤ (x28_2 : Int) := of_decide_eq_true (by first | (with_reducible assumption) | assumption)
               have q127 : x28_2 < (y123.length : Int) := of_decide_eq_true (by first | (with_reducible assumption) | assumption)
               obtain ⟨ad127, e127, hx127_0, hx127_1, hx127_2, hx127_3, hx127_4, hx127_5, hx127_6, hx127_7, hx127_8, hx127_9, hx127_10, hx127_11, hx127_12, hx127_13, hx127_14⟩ := at_T26 HR126.out x28_2 p127 q127
               cases e127
               replace hx127_0 := (HB.out.cell (World.block_lt_of_cell? w _ hx127_0)).trans hx127_0
               replace hx127_1 := (HB.out.cell (World.block_lt_of_cell? w _ hx127_1)).trans hx127_1
               replace hx127_2 := (HB.out.cell (World.block_lt_of_cell? w _ hx127_2)).trans hx127_2
               replace hx127_3 := (HB.out.cell (World.block_lt_of_cell? w _ hx127_3)).trans hx127_3
               replace hx127_4 := (HB.out.cell (World.block_lt_of_cell? w _ hx127_4)).trans hx127_4
               replace hx127_5 := (HB.out.cell (World.block_lt_of_cell? w _ hx127_5)).trans hx127_5
               replace hx127_6 := (HB.out.cell (World.block_lt_of_cell? w _ hx127_6)).trans hx127_6
               replace hx127_7 := (HB.out.cell (World.block_lt_of_cell? w _ hx127_7)).trans hx127_7
               replace hx127_8 := (HB.out.cell (World.block_lt_of_cell? w _ hx127_8)).trans hx127_8
               replace hx127_9 := (HB.out.cell (World.block_lt_of_cell? w _ hx127_9)).trans hx127_9
               replace hx127_10 := (HB.out.cell (World.block_lt_of_cell? w _ hx127_10)).trans hx127_10
               replace hx127_11 := (HB.out.cell (World.block_lt_of_cell? w _ hx127_11)).trans hx127_11
               replace hx127_12 := (HB.out.cell (World.block_lt_of_cell? w _ hx127_12)).trans hx127_12
               replace hx127_13 := (HB.out.cell (World.block_lt_of_cell? w _ hx127_13)).trans hx127_13
               replace hx127_14 := (HB.out.cell (World.block_lt_of_cell? w _ hx127_14)).trans hx127_14
               replace p127 := eq_true p127
               replace q127 := eq_true q127
               try go_wp2_with (first | ((with_reducible refine gate_dst (N := 7) rfl ?_); (try (refine gate_guard (by rfl) ?_; dsimp only)); refine box_event ?hg (N := 7) ?hd (cs := #[.int .i64 0, .int .i64 0, .int .i64 0, .int .i64 0, .int .i64 0, .int .i64 0, .int .i64 0, .int .i64 0, .int .i64 0, .int .i64 0, .int .i64 0, .int .i64 0, .int .i64 0, .int .i64 0, .int .i64 0]) (t := 26) ?hr ?_; (case hd => rfl); (case hg => rfl); (case hr => first | (go_simp; done) | (go_simp; rfl)); intro gb128 hg w44 hbox hb; have n0_ := Aside0.mk (blk_below (g := gb121) (o := .cells #[.int .i64 t117, .int .i64 t118, .int .i64 t119, .int .i64 t120] 24 (0, 0)) (by (with_reducible repeat (first | refine blk_drewN ?_ _ | refine blk_drew ?_ | refine blk_alloc ?_ _)); exact BK121.out) hb); have n1_ := Aside0.mk (below_step (by repeat (first | (with_reducible first | exact HB.out | apply below_alloc | apply pw_below_drewN | apply below_drew1 | refine below_set ?_ GE121.out) | exact HB.out)) hb); have n2_ := Aside0.mk (hbox); have n3_ := Aside0.mk ((by rw [hg]; exact (below_size (by repeat (first | (with_reducible first | exact HB.out | apply below_alloc | apply pw_below_drewN | apply below_drew1 | refine below_set ?_ GE121.out) | exact HB.out))) : w.heap.size ≤ gb128)); have n4_ := Aside0.mk ((by rw [hg]; exact (below_size (by repeat (first | (with_reducible first | exact HB.out | apply below_alloc | apply pw_below_drewN | apply below_drew1 | refine below_set ?_ GE121.out) | exact HB.out))) : w.heap.size ≤ gb128)); have n5_ := Aside0.mk ((by rw [hg]; exact Nat.ne_of_lt (blk_lt (g := gb121) (o := .cells #[.int .i64 t117, .int .i64 t118, .int .i64 t119, .int .i64 t120] 24 (0, 0)) (by (with_reducible repeat (first | refine blk_drewN ?_ _ | refine blk_drew ?_ | refine blk_alloc ?_ _)); exact BK121.out)) : gb121 ≠ gb128)); have n6_ := Aside0.mk ((by rw [hg]; exact Nat.ne_of_gt (blk_lt (g := gb121) (o := .cells #[.int .i64 t117, .int .i64 t118, .int .i64 t119, .int .i64 t120] 24 (0, 0)) (by (with_reducible repeat (first | refine blk_drewN ?_ _ | refine blk_drew ?_ | refine blk_alloc ?_ _)); exact BK121.out)) : gb128 ≠ gb121)); clear BK121; clear HB; have BK121 := n0_; have HB := n1_; have BK128 := n2_; have GW128 := n3_; have GE128 := n4_; have NB121_128 := n5_; have NB128_121 := n6_; clear n0_ n1_ n2_ n3_ n4_ n5_ n6_; clear hb hbox hg; have hnb45 := NB128_121.out; have hnc45 := NB121_128.out; have hcz46_0 : w44.cell? ⟨gb128, 0, none⟩ = some (.int .i64 0) := (blk_cell BK128.out 0).trans rfl; have hcz46_1 : w44.cell? ⟨gb128, 1, none⟩ = some (.int .i64 0) := (blk_cell BK128.out 1).trans rfl; have hcz46_2 : w44.cell? ⟨gb128, 2, none⟩ = some (.int .i64 0) := (blk_cell BK128.out 2).trans rfl; have hcz46_3 : w44.cell? ⟨gb128, 3, none⟩ = some (.int .i64 0) := (blk_cell BK128.out 3).trans rfl; have hcz46_4 : w44.cell? ⟨gb128, 4, none⟩ = some (.int .i64 0) := (blk_cell BK128.out 4).trans rfl; have hcz46_5 : w44.cell? ⟨gb128, 5, none⟩ = some (.int .i64 0) := (blk_cell BK128.out 5).trans rfl; have hcz46_6 : w44.cell? ⟨gb128, 6, none⟩ = some (.int .i64 0) := (blk_cell BK128.out 6).trans rfl; have hcz46_7 : w44.cell? ⟨gb128, 7, none⟩ = some (.int .i64 0) := (blk_cell BK128.out 7).trans rfl; have hcz46_8 : w44.cell? ⟨gb128, 8, none⟩ = some (.int .i64 0) := (blk_cell BK128.out 8).trans rfl; have hcz46_9 : w44.cell? ⟨gb128, 9, none⟩ = some (.int .i64 0) := (blk_cell BK128.out 9).trans rfl; have hcz46_10 : w44.cell? ⟨gb128, 10, none⟩ = some (.int .i64 0) := (blk_cell BK128.out 10).trans rfl; have hcz46_11 : w44.cell? ⟨gb128, 11, none⟩ = some (.int .i64 0) := (blk_cell BK128.out 11).trans rfl; have hcz46_12 : w44.cell? ⟨gb128, 12, none⟩ = some (.int .i64 0) := (blk_cell BK128.out 12).trans rfl; have hcz46_13 : w44.cell? ⟨gb128, 13, none⟩ = some (.int .i64 0) := (blk_cell BK128.out 13).trans rfl; have hcz46_14 : w44.cell? ⟨gb128, 14, none⟩ = some (.int .i64 0) := (blk_cell BK128.out 14).trans rfl; have hfz46_0 := blk_frozen BK128.out 0; have hfz46_1 := blk_frozen BK128.out 1; have hfz46_2 := blk_frozen BK128.out 2; have hfz46_3 := blk_frozen BK128.out 3; have hfz46_4 := blk_frozen BK128.out 4; have hfz46_5 := blk_frozen BK128.out 5; have hfz46_6 := blk_frozen BK128.out 6; have hfz46_7 := blk_frozen BK128.out 7; have hfz46_8 := blk_frozen BK128.out 8; have hfz46_9 := blk_frozen BK128.out 9; have hfz46_10 := blk_frozen BK128.out 10; have hfz46_11 := blk_frozen BK128.out 11; have hfz46_12 := blk_frozen BK128.out 12; have hfz46_13 := blk_frozen BK128.out 13; have hfz46_14 := blk_frozen BK128.out 14))
               have n0_ : Aside0 ((((((((((((((((w44.setCell ⟨gb128, 0, none⟩ (.int .i64 ((rd_T26 y123 x28_2).f0))).setCell ⟨gb128, 1, none⟩ (.int .i64 ((rd_T26 y123 x28_2).f1))).setCell ⟨gb128, 2, none⟩ (.int .i64 ((rd_T26 y123 x28_2).f2.f0))).setCell ⟨gb128, 3, none⟩ (.int .i64 ((rd_T26 y123 x28_2).f2.f1))).setCell ⟨gb128, 4, none⟩ (.int .i64 ((rd_T26 y123 x28_2).f2.f2))).setCell ⟨gb128, 5, none⟩ (.int .i64 ((rd_T26 y123 x28_2).f2.f3))).setCell ⟨gb128, 6, none⟩ (.int .i64 ((rd_T26 y123 x28_2).f3.f0))).setCell ⟨gb128, 7, none⟩ (.int .i64 ((rd_T26 y123 x28_2).f3.f1))).setCell ⟨gb128, 8, none⟩ (.int .i64 ((rd_T26 y123 x28_2).f3.f2))).setCell ⟨gb128, 9, none⟩ (.int .i64 ((rd_T26 y123 x28_2).f3.f3))).setCell ⟨gb128, 10, none⟩ (.int .i64 ((rd_T26 y123 x28_2).f4.f0))).setCell ⟨gb128, 11, none⟩ (.int .i64 ((rd_T26 y123 x28_2).f4.f1))).setCell ⟨gb128, 12, none⟩ (.int .i64 ((rd_T26 y123 x28_2).f4.f2))).setCell ⟨gb128, 13, none⟩ (.int .i64 ((rd_T26 y123 x28_2).f4.f3))).setCell ⟨gb128, 14, none⟩ (.int .i64 ((rd_T26 y123 x28_2).f5))).heap[gb121]? = some (.cells #[.int .i64 t117, .int .i64 t118, .int .i64 t119, .int .i64 t120] 24 (0, 0))) := ⟨by (with_reducible repeat (first | refine blk_drewN ?_ _ | refine blk_drew ?_ | refine blk_alloc ?_ _)); refine blk_far ?_ NB121_128.out _; (with_reducible repeat (first | refine blk_drewN ?_ _ | refine blk_drew ?_ | refine blk_alloc ?_ _)); refine blk_far ?_ NB121_128.out _; (with_reducible repeat (first | refine blk_drewN ?_ _ | refine blk_drew ?_ | refine blk_alloc ?_ _)); refine blk_far ?_ NB121_128.out _; (with_reducible repeat (first | refine blk_drewN ?_ _ | refine blk_drew ?_ | refine blk_alloc ?_ _)); refine blk_far ?_ NB121_128.out _; (with_reducible repeat (first | refine blk_drewN ?_ _ | refine blk_drew ?_ | refine blk_alloc ?_ _)); refine blk_far ?_ NB121_128.out _; (with_reducible repeat (first | refine blk_drewN ?_ _ | refine blk_drew ?_ | refine blk_alloc ?_ _)); refine blk_far ?_ NB121_128.out _; (with_reducible repeat (first | refine blk_drewN ?_ _ | refine blk_drew ?_ | refine blk_alloc ?_ _)); refine blk_far ?_ NB121_128.out _; (with_reducible repeat (first | refine blk_drewN ?_ _ | refine blk_drew ?_ | refine blk_alloc ?_ _)); refine blk_far ?_ NB121_128.out _; (with_reducible repeat (first | refine blk_drewN ?_ _ | refine blk_drew ?_ | refine blk_alloc ?_ _)); refine blk_far ?_ NB121_128.out _; (with_reducible repeat (first | refine blk_drewN ?_ _ | refine blk_drew ?_ | refine blk_alloc ?_ _)); refine blk_far ?_ NB121_128.out _; (with_reducible repeat (first | refine blk_drewN ?_ _ | refine blk_drew ?_ | refine blk_alloc ?_ _)); refine blk_far ?_ NB121_128.out _; (with_reducible repeat (first | refine blk_drewN ?_ _ | refine blk_drew ?_ | refine blk_alloc ?_ _)); refine blk_far ?_ NB121_128.out _; (with_reducible repeat (first | refine blk_drewN ?_ _ | refine blk_drew ?_ | refine blk_alloc ?_ _)); refine blk_far ?_ NB121_128.out _; (with_reducible repeat (first | refine blk_drewN ?_ _ | refine blk_drew ?_ | refine blk_alloc ?_ _)); refine blk_far ?_ NB121_128.out _; (with_reducible repeat (first | refine blk_drewN ?_ _ | refine blk_drew ?_ | refine blk_alloc ?_ _)); refine blk_far ?_ NB121_128.out _; (with_reducible repeat (first | refine blk_drewN ?_ _ | refine blk_drew ?_ | refine blk_alloc ?_ _)); exact BK121.out⟩
               have n1_ : Aside0 ((((((((((((((((w44.setCell ⟨gb128, 0, none⟩ (.int .i64 ((rd_T26 y123 x28_2).f0))).setCell ⟨gb128, 1, none⟩ (.int .i64 ((rd_T26 y123 x28_2).f1))).setCell ⟨gb128, 2, none⟩ (.int .i64 ((rd_T26 y123 x28_2).f2.f0))).setCell ⟨gb128, 3, none⟩ (.int .i64 ((rd_T26 y123 x28_2).f2.f1))).setCell ⟨gb128, 4, none⟩ (.int .i64 ((rd_T26 y123 x28_2).f2.f2))).setCell ⟨gb128, 5, none⟩ (.int .i64 ((rd_T26 y123 x28_2).f2.f3))).setCell ⟨gb128, 6, none⟩ (.int .i64 ((rd_T26 y123 x28_2).f3.f0))).setCell ⟨gb128, 7, none⟩ (.int .i64 ((rd_T26 y123 x28_2).f3.f1))).setCell ⟨gb128, 8, none⟩ (.int .i64 ((rd_T26 y123 x28_2).f3.f2))).setCell ⟨gb128, 9, none⟩ (.int .i64 ((rd_T26 y123 x28_2).f3.f3))).setCell ⟨gb128, 10, none⟩ (.int .i64 ((rd_T26 y123 x28_2).f4.f0))).setCell ⟨gb128, 11, none⟩ (.int .i64 ((rd_T26 y123 x28_2).f4.f1))).setCell ⟨gb128, 12, none⟩ (.int .i64 ((rd_T26 y123 x28_2).f4.f2))).setCell ⟨gb128, 13, none⟩ (.int .i64 ((rd_T26 y123 x28_2).f4.f3))).setCell ⟨gb128, 14, none⟩ (.int .i64 ((rd_T26 y123 x28_2).f5))).heap[gb128]? = some (.cells #[.int .i64 ((rd_T26 y123 x28_2).f0), .int .i64 ((rd_T26 y123 x28_2).f1), .int .i64 ((rd_T26 y123 x28_2).f2.f0), .int .i64 ((rd_T26 y123 x28_2).f2.f1), .int .i64 ((rd_T26 y123 x28_2).f2.f2), .int .i64 ((rd_T26 y123 x28_2).f2.f3), .int .i64 ((rd_T26 y123 x28_2).f3.f0), .int .i64 ((rd_T26 y123 x28_2).f3.f1), .int .i64 ((rd_T26 y123 x28_2).f3.f2), .int .i64 ((rd_T26 y123 x28_2).f3.f3), .int .i64 ((rd_T26 y123 x28_2).f4.f0), .int .i64 ((rd_T26 y123 x28_2).f4.f1), .int .i64 ((rd_T26 y123 x28_2).f4.f2), .int .i64 ((rd_T26 y123 x28_2).f4.f3), .int .i64 ((rd_T26 y123 x28_2).f5)] 26 (0, 0))) := ⟨by (with_reducible repeat (first | refine blk_drewN ?_ _ | refine blk_drew ?_ | refine blk_alloc ?_ _)); refine blk_put (cs := #[.int .i64 ((rd_T26 y123 x28_2).f0), .int .i64 ((rd_T26 y123 x28_2).f1), .int .i64 ((rd_T26 y123 x28_2).f2.f0), .int .i64 ((rd_T26 y123 x28_2).f2.f1), .int .i64 ((rd_T26 y123 x28_2).f2.f2), .int .i64 ((rd_T26 y123 x28_2).f2.f3), .int .i64 ((rd_T26 y123 x28_2).f3.f0), .int .i64 ((rd_T26 y123 x28_2).f3.f1), .int .i64 ((rd_T26 y123 x28_2).f3.f2), .int .i64 ((rd_T26 y123 x28_2).f3.f3), .int .i64 ((rd_T26 y123 x28_2).f4.f0), .int .i64 ((rd_T26 y123 x28_2).f4.f1), .int .i64 ((rd_T26 y123 x28_2).f4.f2), .int .i64 ((rd_T26 y123 x28_2).f4.f3), .int .i64 0]) ?_ 14 _ rfl; (with_reducible repeat (first | refine blk_drewN ?_ _ | refine blk_drew ?_ | refine blk_alloc ?_ _)); refine blk_put (cs := #[.int .i64 ((rd_T26 y123 x28_2).f0), .int .i64 ((rd_T26 y123 x28_2).f1), .int .i64 ((rd_T26 y123 x28_2).f2.f0), .int .i64 ((rd_T26 y123 x28_2).f2.f1), .int .i64 ((rd_T26 y123 x28_2).f2.f2), .int .i64 ((rd_T26 y123 x28_2).f2.f3), .int .i64 ((rd_T26 y123 x28_2).f3.f0), .int .i64 ((rd_T26 y123 x28_2).f3.f1), .int .i64 ((rd_T26 y123 x28_2).f3.f2), .int .i64 ((rd_T26 y123 x28_2).f3.f3), .int .i64 ((rd_T26 y123 x28_2).f4.f0), .int .i64 ((rd_T26 y123 x28_2).f4.f1), .int .i64 ((rd_T26 y123 x28_2).f4.f2), .int .i64 0, .int .i64 0]) ?_ 13 _ rfl; (with_reducible repeat (first | refine blk_drewN ?_ _ | refine blk_drew ?_ | refine blk_alloc ?_ _)); refine blk_put (cs := #[.int .i64 ((rd_T26 y123 x28_2).f0), .int .i64 ((rd_T26 y123 x28_2).f1), .int .i64 ((rd_T26 y123 x28_2).f2.f0), .int .i64 ((rd_T26 y123 x28_2).f2.f1), .int .i64 ((rd_T26 y123 x28_2).f2.f2), .int .i64 ((rd_T26 y123 x28_2).f2.f3), .int .i64 ((rd_T26 y123 x28_2).f3.f0), .int .i64 ((rd_T26 y123 x28_2).f3.f1), .int .i64 ((rd_T26 y123 x28_2).f3.f2), .int .i64 ((rd_T26 y123 x28_2).f3.f3), .int .i64 ((rd_T26 y123 x28_2).f4.f0), .int .i64 ((rd_T26 y123 x28_2).f4.f1), .int .i64 0, .int .i64 0, .int .i64 0]) ?_ 12 _ rfl; (with_reducible repeat (first | refine blk_drewN ?_ _ | refine blk_drew ?_ | refine blk_alloc ?_ _)); refine blk_put (cs := #[.int .i64 ((rd_T26 y123 x28_2).f0), .int .i64 ((rd_T26 y123 x28_2).f1), .int .i64 ((rd_T26 y123 x28_2).f2.f0), .int .i64 ((rd_T26 y123 x28_2).f2.f1), .int .i64 ((rd_T26 y123 x28_2).f2.f2), .int .i64 ((rd_T26 y123 x28_2).f2.f3), .int .i64 ((rd_T26 y123 x28_2).f3.f0), .int .i64 ((rd_T26 y123 x28_2).f3.f1), .int .i64 ((rd_T26 y123 x28_2).f3.f2), .int .i64 ((rd_T26 y123 x28_2).f3.f3), .int .i64 ((rd_T26 y123 x28_2).f4.f0), .int .i64 0, .int .i64 0, .int .i64 0, .int .i64 0]) ?_ 11 _ rfl; (with_reducible repeat (first | refine blk_drewN ?_ _ | refine blk_drew ?_ | refine blk_alloc ?_ _)); refine blk_put (cs := #[.int .i64 ((rd_T26 y123 x28_2).f0), .int .i64 ((rd_T26 y123 x28_2).f1), .int .i64 ((rd_T26 y123 x28_2).f2.f0), .int .i64 ((rd_T26 y123 x28_2).f2.f1), .int .i64 ((rd_T26 y123 x28_2).f2.f2), .int .i64 ((rd_T26 y123 x28_2).f2.f3), .int .i64 ((rd_T26 y123 x28_2).f3.f0), .int .i64 ((rd_T26 y123 x28_2).f3.f1), .int .i64 ((rd_T26 y123 x28_2).f3.f2), .int .i64 ((rd_T26 y123 x28_2).f3.f3), .int .i64 0, .int .i64 0, .int .i64 0, .int .i64 0, .int .i64 0]) ?_ 10 _ rfl; (with_reducible repeat (first | refine blk_drewN ?_ _ | refine blk_drew ?_ | refine blk_alloc ?_ _)); refine blk_put (cs := #[.int .i64 ((rd_T26 y123 x28_2).f0), .int .i64 ((rd_T26 y123 x28_2).f1), .int .i64 ((rd_T26 y123 x28_2).f2.f0), .int .i64 ((rd_T26 y123 x28_2).f2.f1), .int .i64 ((rd_T26 y123 x28_2).f2.f2), .int .i64 ((rd_T26 y123 x28_2).f2.f3), .int .i64 ((rd_T26 y123 x28_2).f3.f0), .int .i64 ((rd_T26 y123 x28_2).f3.f1), .int .i64 ((rd_T26 y123 x28_2).f3.f2), .int .i64 0, .int .i64 0, .int .i64 0, .int .i64 0, .int .i64 0, .int .i64 0]) ?_ 9 _ rfl; (with_reducible repeat (first | refine blk_drewN ?_ _ | refine blk_drew ?_ | refine blk_alloc ?_ _)); refine blk_put (cs := #[.int .i64 ((rd_T26 y123 x28_2).f0), .int .i64 ((rd_T26 y123 x28_2).f1), .int .i64 ((rd_T26 y123 x28_2).f2.f0), .int .i64 ((rd_T26 y123 x28_2).f2.f1), .int .i64 ((rd_T26 y123 x28_2).f2.f2), .int .i64 ((rd_T26 y123 x28_2).f2.f3), .int .i64 ((rd_T26 y123 x28_2).f3.f0), .int .i64 ((rd_T26 y123 x28_2).f3.f1), .int .i64 0, .int .i64 0, .int .i64 0, .int .i64 0, .int .i64 0, .int .i64 0, .int .i64 0]) ?_ 8 _ rfl; (with_reducible repeat (first | refine blk_drewN ?_ _ | refine blk_drew ?_ | refine blk_alloc ?_ _)); refine blk_put (cs := #[.int .i64 ((rd_T26 y123 x28_2).f0), .int .i64 ((rd_T26 y123 x28_2).f1), .int .i64 ((rd_T26 y123 x28_2).f2.f0), .int .i64 ((rd_T26 y123 x28_2).f2.f1), .int .i64 ((rd_T26 y123 x28_2).f2.f2), .int .i64 ((rd_T26 y123 x28_2).f2.f3), .int .i64 ((rd_T26 y123 x28_2).f3.f0), .int .i64 0, .int .i64 0, .int .i64 0, .int .i64 0, .int .i64 0, .int .i64 0, .int .i64 0, .int .i64 0]) ?_ 7 _ rfl; (with_reducible repeat (first | refine blk_drewN ?_ _ | refine blk_drew ?_ | refine blk_alloc ?_ _)); refine blk_put (cs := #[.int .i64 ((rd_T26 y123 x28_2).f0), .int .i64 ((rd_T26 y123 x28_2).f1), .int .i64 ((rd_T26 y123 x28_2).f2.f0), .int .i64 ((rd_T26 y123 x28_2).f2.f1), .int .i64 ((rd_T26 y123 x28_2).f2.f2), .int .i64 ((rd_T26 y123 x28_2).f2.f3), .int .i64 0, .int .i64 0, .int .i64 0, .int .i64 0, .int .i64 0, .int .i64 0, .int .i64 0, .int .i64 0, .int .i64 0]) ?_ 6 _ rfl; (with_reducible repeat (first | refine blk_drewN ?_ _ | refine blk_drew ?_ | refine blk_alloc ?_ _)); refine blk_put (cs := #[.int .i64 ((rd_T26 y123 x28_2).f0), .int .i64 ((rd_T26 y123 x28_2).f1), .int .i64 ((rd_T26 y123 x28_2).f2.f0), .int .i64 ((rd_T26 y123 x28_2).f2.f1), .int .i64 ((rd_T26 y123 x28_2).f2.f2), .int .i64 0, .int .i64 0, .int .i64 0, .int .i64 0, .int .i64 0, .int .i64 0, .int .i64 0, .int .i64 0, .int .i64 0, .int .i64 0]) ?_ 5 _ rfl; (with_reducible repeat (first | refine blk_drewN ?_ _ | refine blk_drew ?_ | refine blk_alloc ?_ _)); refine blk_put (cs := #[.int .i64 ((rd_T26 y123 x28_2).f0), .int .i64 ((rd_T26 y123 x28_2).f1), .int .i64 ((rd_T26 y123 x28_2).f2.f0), .int .i64 ((rd_T26 y123 x28_2).f2.f1), .int .i64 0, .int .i64 0, .int .i64 0, .int .i64 0, .int .i64 0, .int .i64 0, .int .i64 0, .int .i64 0, .int .i64 0, .int .i64 0, .int .i64 0]) ?_ 4 _ rfl; (with_reducible repeat (first | refine blk_drewN ?_ _ | refine blk_drew ?_ | refine blk_alloc ?_ _)); refine blk_put (cs := #[.int .i64 ((rd_T26 y123 x28_2).f0), .int .i64 ((rd_T26 y123 x28_2).f1), .int .i64 ((rd_T26 y123 x28_2).f2.f0), .int .i64 0, .int .i64 0, .int .i64 0, .int .i64 0, .int .i64 0, .int .i64 0, .int .i64 0, .int .i64 0, .int .i64 0, .int .i64 0, .int .i64 0, .int .i64 0]) ?_ 3 _ rfl; (with_reducible repeat (first | refine blk_drewN ?_ _ | refine blk_drew ?_ | refine blk_alloc ?_ _)); refine blk_put (cs := #[.int .i64 ((rd_T26 y123 x28_2).f0), .int .i64 ((rd_T26 y123 x28_2).f1), .int .i64 0, .int .i64 0, .int .i64 0, .int .i64 0, .int .i64 0, .int .i64 0, .int .i64 0, .int .i64 0, .int .i64 0, .int .i64 0, .int .i64 0, .int .i64 0, .int .i64 0]) ?_ 2 _ rfl; (with_reducible repeat (first | refine blk_drewN ?_ _ | refine blk_drew ?_ | refine blk_alloc ?_ _)); refine blk_put (cs := #[.int .i64 ((rd_T26 y123 x28_2).f0), .int .i64 0, .int .i64 0, .int .i64 0, .int .i64 0, .int .i64 0, .int .i64 0, .int .i64 0, .int .i64 0, .int .i64 0, .int .i64 0, .int .i64 0, .int .i64 0, .int .i64 0, .int .i64 0]) ?_ 1 _ rfl; (with_reducible repeat (first | refine blk_drewN ?_ _ | refine blk_drew ?_ | refine blk_alloc ?_ _)); refine blk_put (cs := #[.int .i64 0, .int .i64 0, .int .i64 0, .int .i64 0, .int .i64 0, .int .i64 0, .int .i64 0, .int .i64 0, .int .i64 0, .int .i64 0, .int .i64 0, .int .i64 0, .int .i64 0, .int .i64 0, .int .i64 0]) ?_ 0 _ rfl; (with_reducible repeat (first | refine blk_drewN ?_ _ | refine blk_drew ?_ | refine blk_alloc ?_ _)); exact BK128.out⟩
               have n2_ : Aside0 (Below w.heap.size w (((((((((((((((w44.setCell ⟨gb128, 0, none⟩ (.int .i64 ((rd_T26 y123 x28_2).f0))).setCell ⟨gb128, 1, none⟩ (.int .i64 ((rd_T26 y123 x28_2).f1))).setCell ⟨gb128, 2, none⟩ (.int .i64 ((rd_T26 y123 x28_2).f2.f0))).setCell ⟨gb128, 3, none⟩ (.int .i64 ((rd_T26 y123 x28_2).f2.f1))).setCell ⟨gb128, 4, none⟩ (.int .i64 ((rd_T26 y123 x28_2).f2.f2))).setCell ⟨gb128, 5, none⟩ (.int .i64 ((rd_T26 y123 x28_2).f2.f3))).setCell ⟨gb128, 6, none⟩ (.int .i64 ((rd_T26 y123 x28_2).f3.f0))).setCell ⟨gb128, 7, none⟩ (.int .i64 ((rd_T26 y123 x28_2).f3.f1))).setCell ⟨gb128, 8, none⟩ (.int .i64 ((rd_T26 y123 x28_2).f3.f2))).setCell ⟨gb128, 9, none⟩ (.int .i64 ((rd_T26 y123 x28_2).f3.f3))).setCell ⟨gb128, 10, none⟩ (.int .i64 ((rd_T26 y123 x28_2).f4.f0))).setCell ⟨gb128, 11, none⟩ (.int .i64 ((rd_T26 y123 x28_2).f4.f1))).setCell ⟨gb128, 12, none⟩ (.int .i64 ((rd_T26 y123 x28_2).f4.f2))).setCell ⟨gb128, 13, none⟩ (.int .i64 ((rd_T26 y123 x28_2).f4.f3))).setCell ⟨gb128, 14, none⟩ (.int .i64 ((rd_T26 y123 x28_2).f5)))) := ⟨by repeat (first | (with_reducible first | exact HB.out | apply below_alloc | apply pw_below_drewN | apply below_drew1 | refine below_set ?_ GE121.out | refine below_set ?_ GE128.out) | exact HB.out)⟩
               (try clear BK121)
               (try clear BK128)
               (try clear HB)
               generalize (((((((((((((((w44.setCell ⟨gb128, 0, none⟩ (.int .i64 ((rd_T26 y123 x28_2).f0))).setCell ⟨gb128, 1, none⟩ (.int .i64 ((rd_T26 y123 x28_2).f1))).setCell ⟨gb128, 2, none⟩ (.int .i64 ((rd_T26 y123 x28_2).f2.f0))).setCell ⟨gb128, 3, none⟩ (.int .i64 ((rd_T26 y123 x28_2).f2.f1))).setCell ⟨gb128, 4, none⟩ (.int .i64 ((rd_T26 y123 x28_2).f2.f2))).setCell ⟨gb128, 5, none⟩ (.int .i64 ((rd_T26 y123 x28_2).f2.f3))).setCell ⟨gb128, 6, none⟩ (.int .i64 ((rd_T26 y123 x28_2).f3.f0))).setCell ⟨gb128, 7, none⟩ (.int .i64 ((rd_T26 y123 x28_2).f3.f1))).setCell ⟨gb128, 8, none⟩ (.int .i64 ((rd_T26 y123 x28_2).f3.f2))).setCell ⟨gb128, 9, none⟩ (.int .i64 ((rd_T26 y123 x28_2).f3.f3))).setCell ⟨gb128, 10, none⟩ (.int .i64 ((rd_T26 y123 x28_2).f4.f0))).setCell ⟨gb128, 11, none⟩ (.int .i64 ((rd_T26 y123 x28_2).f4.f1))).setCell ⟨gb128, 12, none⟩ (.int .i64 ((rd_T26 y123 x28_2).f4.f2))).setCell ⟨gb128, 13, none⟩ (.int .i64 ((rd_T26 y123 x28_2).f4.f3))).setCell ⟨gb128, 14, none⟩ (.int .i64 ((rd_T26 y123 x28_2).f5))) = w47 at n0_ n1_ n2_ ⊢
               have BK121 := n0_
               have BK128 := n1_
               have HB := n2_
               clear n0_ n1_ n2_
               have n0_ := Aside0.mk (blk_drew BK121.out)
               have n1_ := Aside0.mk (blk_drew BK128.out)
               have n2_ := Aside0.mk (below_drew1 HB.out)
               clear BK121
               clear BK128
               clear HB
               have BK121 := n0_
               have BK128 := n1_
               have HB := n2_
               clear n0_ n1_ n2_
               refine start_ (n := 9) (S := fun w' => w'.cell? ⟨gb128, 0, none⟩ = some (.int .i64 ((rd_T26 y123 x28_2).f0)) ∧ w'.cell? ⟨gb128, 1, none⟩ = some (.int .i64 ((rd_T26 y123 x28_2).f1)) ∧ w'.cell? ⟨gb128, 2, none⟩ = some (.int .i64 ((rd_T26 y123 x28_2).f2.f0)) ∧ w'.cell? ⟨gb128, 3, none⟩ = some (.int .i64 ((rd_T26 y123 x28_2).f2.f1)) ∧ w'.cell? ⟨gb128, 4, none⟩ = some (.int .i64 ((rd_T26 y123 x28_2).f2.f2)) ∧ w'.cell? ⟨gb128, 5, none⟩ = some (.int .i64 ((rd_T26 y123 x28_2).f2.f3)) ∧ w'.cell? ⟨gb128, 6, none⟩ = some (.int .i64 ((rd_T26 y123 x28_2).f3.f0)) ∧ w'.cell? ⟨gb128, 7, none⟩ = some (.int .i64 ((rd_T26 y123 x28_2).f3.f1)) ∧ w'.cell? ⟨gb128, 8, none⟩ = some (.int .i64 ((rd_T26 y123 x28_2).f3.f2)) ∧ w'.cell? ⟨gb128, 9, none⟩ = some (.int .i64 ((rd_T26 y123 x28_2).f3.f3)) ∧ w'.cell? ⟨gb128, 10, none⟩ = some (.int .i64 ((rd_T26 y123 x28_2).f4.f0)) ∧ w'.cell? ⟨gb128, 11, none⟩ = some (.int .i64 ((rd_T26 y123 x28_2).f4.f1)) ∧ w'.cell? ⟨gb128, 12, none⟩ = some (.int .i64 ((rd_T26 y123 x28_2).f4.f2)) ∧ w'.cell? ⟨gb128, 13, none⟩ = some (.int .i64 ((rd_T26 y123 x28_2).f4.f3)) ∧ w'.cell? ⟨gb128, 14, none⟩ = some (.int .i64 ((rd_T26 y123 x28_2).f5))) (ds := []) #[false, false, false, false, false, false, false, false, false] (by kernel_rfl) rfl rfl ⟨(blk_cell BK128.out 0).trans rfl, (blk_cell BK128.out 1).trans rfl, (blk_cell BK128.out 2).trans rfl, (blk_cell BK128.out 3).trans rfl, (blk_cell BK128.out 4).trans rfl, (blk_cell BK128.out 5).trans rfl, (blk_cell BK128.out 6).trans rfl, (blk_cell BK128.out 7).trans rfl, (blk_cell BK128.out 8).trans rfl, (blk_cell BK128.out 9).trans rfl, (blk_cell BK128.out 10).trans rfl, (blk_cell BK128.out 11).trans rfl, (blk_cell BK128.out 12).trans rfl, (blk_cell BK128.out 13).trans rfl, (blk_cell BK128.out 14).trans rfl⟩ (fun hHeld => ?_); refine with_tabW cull_Hidden.tab9 cull_Hidden.bits9 (fun HT_ HW_ => ?_)
               generalize w47.drew = w48 at BK121 BK128 HB hHeld ⊢
               refine pure_ (i := 0) (N := some 32) (v := ?_) (a' := ?_) #[true, false, false, false, false, false, false, false, false] rfl rfl (any_of HT_.out (by kernel_rfl)) (fun _ _ _ h => h) (Or.inl ⟨by rfl, ?_⟩) ?_ ?_
               rotate_left
               ·intro w'
                go_simp
                with_reducible rfl
               rotate_left
               ·simp only [Act.put, List.setIfInBounds_toArray, List.set_cons_zero, List.set_cons_succ, i64_w, i32_w]
                rfl
               refine take_ (i := 1) (N := some 33) (v := ?_) (a' := ?_) #[true, true, false, false, false, false, false, false, false] rfl rfl (take_ofW HT_.out HW_.out (by kernel_rfl)) (fun _ _ _ h => h) (Or.inl ⟨by rfl, ?_⟩) hHeld ?_ ?_
               rotate_left
               ·rintro w' ⟨s0, s1, s2, s3, s4, s5, s6, s7, s8, s9, s10, s11, s12, s13, s14⟩
                go_simp
                with_reducible rfl
               rotate_left
               ·simp only [Act.put, List.setIfInBounds_toArray, List.set_cons_zero, List.set_cons_succ, i64_w, i32_w]
                rfl
               refine pure_ (i := 2) (N := some 34) (v := ?_) (a' := ?_) #[true, true, true, false, false, false, false, false, false] rfl rfl (any_of HT_.out (by kernel_rfl)) (fun _ _ _ h => h) (Or.inl ⟨by rfl, ?_⟩) ?_ ?_
               rotate_left
               ·intro w'
                go_simp
                with_reducible rfl
               rotate_left
               ·simp only [Act.put, List.setIfInBounds_toArray, List.set_cons_zero, List.set_cons_succ, i64_w, i32_w]
                rfl
               refine pure_ (i := 3) (N := some 35) (v := ?_) (a' := ?_) #[true, true, true, true, false, false, false, false, false] rfl rfl (any_of HT_.out (by kernel_rfl)) (fun _ _ _ h => h) (Or.inl ⟨by rfl, ?_⟩) ?_ ?_
               rotate_left
               ·intro w'
                go_simp
                with_reducible rfl
               rotate_left
               ·simp only [Act.put, List.setIfInBounds_toArray, List.set_cons_zero, List.set_cons_succ, i64_w, i32_w]
                rfl
               refine pure_ (i := 4) (N := some 36) (v := undef) (a' := ?_) #[true, true, true, true, true, false, false, false, false] rfl rfl (any_of HT_.out (by kernel_rfl)) (fun _ _ _ h => h) (Or.inr ⟨by rfl, rfl⟩) ?_ ?_
               rotate_left
               ·simp only [Act.put, List.setIfInBounds_toArray, List.set_cons_zero, List.set_cons_succ, i64_w, i32_w]
                rfl
               refine pure_ (i := 5) (N := some 37) (v := undef) (a' := ?_) #[true, true, true, true, true, true, false, false, false] rfl rfl (any_of HT_.out (by kernel_rfl)) (fun _ _ _ h => h) (Or.inr ⟨by rfl, rfl⟩) ?_ ?_
               rotate_left
               ·simp only [Act.put, List.setIfInBounds_toArray, List.set_cons_zero, List.set_cons_succ, i64_w, i32_w]
                rfl
               refine pure_ (i := 6) (N := some 38) (v := undef) (a' := ?_) #[true, true, true, true, true, true, true, false, false] rfl rfl (any_of HT_.out (by kernel_rfl)) (fun _ _ _ h => h) (Or.inr ⟨by rfl, rfl⟩) ?_ ?_
               rotate_left
               ·simp only [Act.put, List.setIfInBounds_toArray, List.set_cons_zero, List.set_cons_succ, i64_w, i32_w]
                rfl
               refine pure_ (i := 7) (N := some 39) (v := undef) (a' := ?_) #[true, true, true, true, true, true, true, true, false] rfl rfl (any_of HT_.out (by kernel_rfl)) (fun _ _ _ h => h) (Or.inr ⟨by rfl, rfl⟩) ?_ ?_
               rotate_left
               ·simp only [Act.put, List.setIfInBounds_toArray, List.set_cons_zero, List.set_cons_succ, i64_w, i32_w]
                rfl
               refine pure_ (i := 8) (N := some 40) (v := ?_) (a' := ?_) #[true, true, true, true, true, true, true, true, true] rfl rfl (any_of HT_.out (by kernel_rfl)) (fun _ _ _ h => h) (Or.inl ⟨by rfl, ?_⟩) ?_ ?_
               rotate_left
               ·intro w'
                go_simp
                with_reducible rfl
               rotate_left
               ·simp only [Act.put, List.setIfInBounds_toArray, List.set_cons_zero, List.set_cons_succ, i64_w, i32_w]
                rfl
               refine done_ (done_of HT_.out (by kernel_rfl)) ?_
               try go_wp2
               go_roundg k2
               case measure => have := HJ2.out; have := HK2.out; omega
               case rel => exact ⟨(wrap64 (x28_2 + 1)), (by first | rfl | (simp; done) | (simp [*]; done)), H', ⟨by have := HJ2.out; have := HK2.out; omega⟩, ⟨by (with_reducible repeat (first | refine blk_drewN ?_ _ | refine blk_drew ?_ | refine blk_alloc ?_ _)); exact BK121.out⟩, ⟨by repeat (first | (with_reducible first | exact HB.out | apply below_alloc | apply pw_below_drewN | apply below_drew1 | refine below_set ?_ GE121.out | refine below_set ?_ GE128.out) | exact HB.out)⟩⟩
             ·rw [if_neg c25] at H
              exact absurd H (by simp)
            ·rw [if_neg c24] at H
             exact absurd H (by simp)
           ·rw [if_neg c23] at H
            have c23b0 : decide (x28_2 < (y123.length : Int)) = false := decide_eq_false c23
            clear c23
            obtain rfl := Option.some.inj H
            go_wp2
            go_ret
            exact ⟨by first | rfl | (simp [errW_none, errW_some] <;> rfl) | (simp only [← hji15]; first | rfl | (simp [errW_none, errW_some] <;> rfl)) | (simp [*, errW_none, errW_some] <;> rfl), by repeat (first | (with_reducible first | exact HB.out | apply below_alloc | apply pw_below_drewN | apply below_drew1 | refine below_set ?_ GE121.out) | exact HB.out)⟩
        ·rw [if_neg c17] at H
         exact absurd H (by simp)
       ·rw [if_neg c16] at H
        exact absurd H (by simp)
     ·rw [if_neg c7] at H
      exact absurd H (by simp)
    ·rw [if_neg c6] at H
     exact absurd H (by simp)

end Go.Proofs.Ytipcledgblodjaa.PCullSifts
