/- What is proved: contracts of functions that the law OwnerTells reaches, written by program. Conditions: none but those in each statement. -/
import Derived.Test.YtipcledgblodjaaPOwnerTellsx0
import Derived.Test.YtipcledgblodjaaPOwnerTellsx1
import Derived.Test.YtipcledgblodjaaPOwnerTellsx2
import Derived.Test.YtipcledgblodjaaPOwnerTellsx3
import Derived.Test.YtipcledgblodjaaPOwnerTellsx4
namespace Go.Proofs.Ytipcledgblodjaa.POwnerTells
open Go.RowKit Go.Proofs.YtipcledgblodjaaW.PrintWords Go.Proofs.YtipcledgblodjaaW.PrintLast Go.Proofs.YtipcledgblodjaaW.PrintMore
attribute [local go_sem] max2_int min2_int max_two min_two max_three min_three max_four min_four   -- for this text's walks alone
set_option linter.unusedVariables false
set_option linter.unusedSimpArgs false

attribute [local go_sem high] eqA24
/-! ### decoupagelaw26_OwnerTells: function 5 -/
mutual
def decoupagelaw26_OwnerTells.j0 : Nat → List (S26) → Int → Int → Bool → Option (Bool)
  | 0, _, _, _, _ => none
  | k + 1, x0, x1, x2, x17 => if x17 = true then ((decoupagelaw26_awake.f k).bind fun t159 => (some t159)) else ((owner_Of.f k x0 x1 x2).bind fun bt160 => ((decoupageref26_Owner.f k x0 x1 x2).bind fun t162 => (if (bt160.2 != (decide (t162 ≥ 0))) = true then (decoupagelaw26_OwnerTells.j1 k x0 x1 x2 true) else (if bt160.1 = (mx t162 0) then ((owner_All.f k x0 x1 x2).bind fun t163 => ((decoupageref26_All.f k x0 x1 x2).bind fun t166 => ((decoupageref08_Same.f k t163 t166).bind fun t169 => (decoupagelaw26_OwnerTells.j1 k x0 x1 x2 (!t169))))) else (decoupagelaw26_OwnerTells.j1 k x0 x1 x2 true)))))
def decoupagelaw26_OwnerTells.j1 : Nat → List (S26) → Int → Int → Bool → Option (Bool)
  | 0, _, _, _, _ => none
  | k + 1, x0, x1, x2, x51 => if x51 = true then (some false) else (decoupagelaw26_OwnerTells.l0 k x0 x1 x2 (x0.length : Int) 0)
def decoupagelaw26_OwnerTells.l0 : Nat → List (S26) → Int → Int → Int → Int → Option (Bool)
  | 0, _, _, _, _, _ => none
  | k + 1, x0, x1, x2, x53, x54 => if x54 < x53 then (if 0 ≤ x54 then (if x54 < (x0.length : Int) then ((owner_Shows.f ((rd_T26 x0 x54).f0) ((rd_T26 x0 x54).f1) ((rd_T26 x0 x54).f2.f0) ((rd_T26 x0 x54).f2.f1) ((rd_T26 x0 x54).f2.f2) ((rd_T26 x0 x54).f2.f3) ((rd_T26 x0 x54).f3.f0) ((rd_T26 x0 x54).f3.f1) ((rd_T26 x0 x54).f3.f2) ((rd_T26 x0 x54).f3.f3) ((rd_T26 x0 x54).f4.f0) ((rd_T26 x0 x54).f4.f1) ((rd_T26 x0 x54).f4.f2) ((rd_T26 x0 x54).f4.f3) ((rd_T26 x0 x54).f5) x1 x2).bind fun t171 => ((decoupageref26_Shows.f ((rd_T26 x0 x54).f0) ((rd_T26 x0 x54).f1) ((rd_T26 x0 x54).f2.f0) ((rd_T26 x0 x54).f2.f1) ((rd_T26 x0 x54).f2.f2) ((rd_T26 x0 x54).f2.f3) ((rd_T26 x0 x54).f3.f0) ((rd_T26 x0 x54).f3.f1) ((rd_T26 x0 x54).f3.f2) ((rd_T26 x0 x54).f3.f3) ((rd_T26 x0 x54).f4.f0) ((rd_T26 x0 x54).f4.f1) ((rd_T26 x0 x54).f4.f2) ((rd_T26 x0 x54).f4.f3) ((rd_T26 x0 x54).f5) x1 x2).bind fun t173 => (if (t171 != t173) = true then (some false) else ((owner_Seen.f ((rd_T26 x0 x54).f0) ((rd_T26 x0 x54).f1) ((rd_T26 x0 x54).f2.f0) ((rd_T26 x0 x54).f2.f1) ((rd_T26 x0 x54).f2.f2) ((rd_T26 x0 x54).f2.f3) ((rd_T26 x0 x54).f3.f0) ((rd_T26 x0 x54).f3.f1) ((rd_T26 x0 x54).f3.f2) ((rd_T26 x0 x54).f3.f3) ((rd_T26 x0 x54).f4.f0) ((rd_T26 x0 x54).f4.f1) ((rd_T26 x0 x54).f4.f2) ((rd_T26 x0 x54).f4.f3) ((rd_T26 x0 x54).f5)).bind fun bt175 => ((decoupageref02_Meet.f k ((rd_T26 x0 x54).f2.f0) ((rd_T26 x0 x54).f2.f1) ((rd_T26 x0 x54).f2.f2) ((rd_T26 x0 x54).f2.f3) ((rd_T26 x0 x54).f4.f0) ((rd_T26 x0 x54).f4.f1) ((rd_T26 x0 x54).f4.f2) ((rd_T26 x0 x54).f4.f3)).bind fun bt181 => (if (!(bt175.1 == bt181.1) || (!(bt175.2.1 == bt181.2.1) || (!(bt175.2.2.1 == bt181.2.2.1) || (!(bt175.2.2.2 == bt181.2.2.2))))) = true then (some false) else (decoupagelaw26_OwnerTells.l0 k x0 x1 x2 x53 (wrap64 (x54 + 1))))))))) else (none)) else (none)) else (some true)
end
def decoupagelaw26_OwnerTells.f (k : Nat) (l0 : List (S26)) (a1 : Int) (a2 : Int) : Option (Bool) := (decoupagelaw26_awake.f k).bind fun t158 => (if t158 = true then (decoupagelaw26_OwnerTells.j0 k l0 a1 a2 (decide ((l0.length : Int) > 100))) else (decoupagelaw26_OwnerTells.j0 k l0 a1 a2 true))
theorem decoupagelaw26_OwnerTells.mono_l : ∀ k, (∀ y0 y1 y2 y3, LeO (decoupagelaw26_OwnerTells.j0 k y0 y1 y2 y3) (decoupagelaw26_OwnerTells.j0 (k + 1) y0 y1 y2 y3)) ∧ (∀ y0 y1 y2 y3, LeO (decoupagelaw26_OwnerTells.j1 k y0 y1 y2 y3) (decoupagelaw26_OwnerTells.j1 (k + 1) y0 y1 y2 y3)) ∧ (∀ y0 y1 y2 y3 y4, LeO (decoupagelaw26_OwnerTells.l0 k y0 y1 y2 y3 y4) (decoupagelaw26_OwnerTells.l0 (k + 1) y0 y1 y2 y3 y4))
  | 0 => ⟨fun _ _ _ _ r h => by simp [decoupagelaw26_OwnerTells.j0] at h, fun _ _ _ _ r h => by simp [decoupagelaw26_OwnerTells.j1] at h, fun _ _ _ _ _ r h => by simp [decoupagelaw26_OwnerTells.l0] at h⟩
  | k + 1 => by
    obtain ⟨ih0, ih1, ih2⟩ := decoupagelaw26_OwnerTells.mono_l k
    refine ⟨?_, ?_, ?_⟩
    · intro y0 y1 y2 y3
      unfold decoupagelaw26_OwnerTells.j0
      repeat' first
      | (with_reducible exact ih0 _ _ _ _)
      | (with_reducible exact ih1 _ _ _ _)
      | (with_reducible exact ih2 _ _ _ _ _)
      | (with_reducible exact decoupagelaw26_awake.mono _)
      | (with_reducible exact decoupageref02_Meet.mono _ _ _ _ _ _ _ _ _)
      | (with_reducible exact decoupageref08_Same.mono _ _ _)
      | (with_reducible exact decoupageref26_All.mono _ _ _ _)
      | (with_reducible exact decoupageref26_Owner.mono _ _ _ _)
      | (with_reducible exact owner_All.mono _ _ _ _)
      | (with_reducible exact owner_Of.mono _ _ _ _)
      | (with_reducible exact LeO.refl _)
      | (with_reducible exact LeO.none _)
      | (with_reducible refine LeO.ite ?_ ?_)
      | (with_reducible refine LeO.bind ?_ (fun _ => ?_))
      | exact ih0 _ _ _ _
      | exact ih1 _ _ _ _
      | exact ih2 _ _ _ _ _
      | exact decoupagelaw26_awake.mono _
      | exact decoupageref02_Meet.mono _ _ _ _ _ _ _ _ _
      | exact decoupageref08_Same.mono _ _ _
      | exact decoupageref26_All.mono _ _ _ _
      | exact decoupageref26_Owner.mono _ _ _ _
      | exact owner_All.mono _ _ _ _
      | exact owner_Of.mono _ _ _ _
      | exact LeO.none _
      | refine LeO.ite ?_ ?_
      | refine LeO.bind ?_ (fun _ => ?_)
    · intro y0 y1 y2 y3
      unfold decoupagelaw26_OwnerTells.j1
      repeat' first
      | (with_reducible exact ih0 _ _ _ _)
      | (with_reducible exact ih1 _ _ _ _)
      | (with_reducible exact ih2 _ _ _ _ _)
      | (with_reducible exact decoupagelaw26_awake.mono _)
      | (with_reducible exact decoupageref02_Meet.mono _ _ _ _ _ _ _ _ _)
      | (with_reducible exact decoupageref08_Same.mono _ _ _)
      | (with_reducible exact decoupageref26_All.mono _ _ _ _)
      | (with_reducible exact decoupageref26_Owner.mono _ _ _ _)
      | (with_reducible exact owner_All.mono _ _ _ _)
      | (with_reducible exact owner_Of.mono _ _ _ _)
      | (with_reducible exact LeO.refl _)
      | (with_reducible exact LeO.none _)
      | (with_reducible refine LeO.ite ?_ ?_)
      | (with_reducible refine LeO.bind ?_ (fun _ => ?_))
      | exact ih0 _ _ _ _
      | exact ih1 _ _ _ _
      | exact ih2 _ _ _ _ _
      | exact decoupagelaw26_awake.mono _
      | exact decoupageref02_Meet.mono _ _ _ _ _ _ _ _ _
      | exact decoupageref08_Same.mono _ _ _
      | exact decoupageref26_All.mono _ _ _ _
      | exact decoupageref26_Owner.mono _ _ _ _
      | exact owner_All.mono _ _ _ _
      | exact owner_Of.mono _ _ _ _
      | exact LeO.none _
      | refine LeO.ite ?_ ?_
      | refine LeO.bind ?_ (fun _ => ?_)
    · intro y0 y1 y2 y3 y4
      unfold decoupagelaw26_OwnerTells.l0
      repeat' first
      | (with_reducible exact ih0 _ _ _ _)
      | (with_reducible exact ih1 _ _ _ _)
      | (with_reducible exact ih2 _ _ _ _ _)
      | (with_reducible exact decoupagelaw26_awake.mono _)
      | (with_reducible exact decoupageref02_Meet.mono _ _ _ _ _ _ _ _ _)
      | (with_reducible exact decoupageref08_Same.mono _ _ _)
      | (with_reducible exact decoupageref26_All.mono _ _ _ _)
      | (with_reducible exact decoupageref26_Owner.mono _ _ _ _)
      | (with_reducible exact owner_All.mono _ _ _ _)
      | (with_reducible exact owner_Of.mono _ _ _ _)
      | (with_reducible exact LeO.refl _)
      | (with_reducible exact LeO.none _)
      | (with_reducible refine LeO.ite ?_ ?_)
      | (with_reducible refine LeO.bind ?_ (fun _ => ?_))
      | exact ih0 _ _ _ _
      | exact ih1 _ _ _ _
      | exact ih2 _ _ _ _ _
      | exact decoupagelaw26_awake.mono _
      | exact decoupageref02_Meet.mono _ _ _ _ _ _ _ _ _
      | exact decoupageref08_Same.mono _ _ _
      | exact decoupageref26_All.mono _ _ _ _
      | exact decoupageref26_Owner.mono _ _ _ _
      | exact owner_All.mono _ _ _ _
      | exact owner_Of.mono _ _ _ _
      | exact LeO.none _
      | refine LeO.ite ?_ ?_
      | refine LeO.bind ?_ (fun _ => ?_)
theorem decoupagelaw26_OwnerTells.mono : ∀ a0 a1 a2 k, LeO (decoupagelaw26_OwnerTells.f k a0 a1 a2) (decoupagelaw26_OwnerTells.f (k + 1) a0 a1 a2) := by
  intro a0 a1 a2 k
  obtain ⟨ih0, ih1, ih2⟩ := decoupagelaw26_OwnerTells.mono_l k
  unfold decoupagelaw26_OwnerTells.f
  repeat' first
      | (with_reducible exact ih0 _ _ _ _)
      | (with_reducible exact ih1 _ _ _ _)
      | (with_reducible exact ih2 _ _ _ _ _)
      | (with_reducible exact decoupagelaw26_awake.mono _)
      | (with_reducible exact decoupageref02_Meet.mono _ _ _ _ _ _ _ _ _)
      | (with_reducible exact decoupageref08_Same.mono _ _ _)
      | (with_reducible exact decoupageref26_All.mono _ _ _ _)
      | (with_reducible exact decoupageref26_Owner.mono _ _ _ _)
      | (with_reducible exact owner_All.mono _ _ _ _)
      | (with_reducible exact owner_Of.mono _ _ _ _)
      | (with_reducible exact LeO.refl _)
      | (with_reducible exact LeO.none _)
      | (with_reducible refine LeO.ite ?_ ?_)
      | (with_reducible refine LeO.bind ?_ (fun _ => ?_))
      | exact ih0 _ _ _ _
      | exact ih1 _ _ _ _
      | exact ih2 _ _ _ _ _
      | exact decoupagelaw26_awake.mono _
      | exact decoupageref02_Meet.mono _ _ _ _ _ _ _ _ _
      | exact decoupageref08_Same.mono _ _ _
      | exact decoupageref26_All.mono _ _ _ _
      | exact decoupageref26_Owner.mono _ _ _ _
      | exact owner_All.mono _ _ _ _
      | exact owner_Of.mono _ _ _ _
      | exact LeO.none _
      | refine LeO.ite ?_ ?_
      | refine LeO.bind ?_ (fun _ => ?_)
def decoupagelaw26_OwnerTells.T10 : Bool × List (List Nat × List Nat) := (true, [([], []), ([], []), ([0, 1], [0, 1]), ([2], [2]), ([], []), ([], []), ([3, 4, 5], [3, 4, 5]), ([], []), ([], []), ([7, 8], [7, 8]), ([9], [9]), ([], []), ([], []), ([10, 11, 12, 6], [10, 11, 12]), ([6, 13], [6, 13]), ([14, 13], [14]), ([15], [15]), ([15], [15]), ([16, 17, 15], [15, 16, 17]), ([18, 15], [15, 18]), ([19, 15, 15], [15, 19]), ([15], [15]), ([15], [15]), ([21, 22, 15], [15, 21, 22]), ([23, 15], [15, 23]), ([24, 15], [15, 24]), ([15], [15]), ([15], [15]), ([26, 27, 15], [15, 26, 27]), ([28, 15], [15, 28]), ([29, 15], [15, 29]), ([25, 30, 20, 15], [15, 25, 30]), ([20, 31, 15], [15, 20, 31]), ([15, 32], [15, 32])])
def decoupagelaw26_OwnerTells.B10 : List Nat := [0, 0, 3, 7, 0, 0, 63, 0, 0, 384, 896, 0, 0, 8191, 16383, 32767, 65535, 65535, 262143, 524287, 1048575, 65535, 65535, 6356991, 14745599, 31522815, 65535, 65535, 201392127, 469827583, 1006698495, 2147483647, 4294967295, 8589934591]
theorem decoupagelaw26_OwnerTells.tab10 : rtab .any (opsOf Try.f5 10) = decoupagelaw26_OwnerTells.T10 := by kernel_rfl
theorem decoupagelaw26_OwnerTells.bits10 : waitsOk decoupagelaw26_OwnerTells.T10.2 decoupagelaw26_OwnerTells.B10 = true := by kernel_rfl
set_option maxHeartbeats 8000000 in
set_option maxRecDepth 100000 in
theorem decoupagelaw26_OwnerTells.calls (k : Nat) (A0 : Option Addr) (c0 : Nat) (l0 : List (S26)) (a1 : Int) (a2 : Int) (r : Bool) (w : World) (hr0 : Kd.C k26 w A0 l0.length l0) (hc0 : l0.length ≤ c0) (h : decoupagelaw26_OwnerTells.f k l0 a1 a2 = some r) :
    Calls Try.prog 5 #[.slice A0 l0.length c0, .int .i64 a1, .int .i64 a2] w fun e w' => e = .returned (.bool r) ∧ Below w.heap.size w w' := by
  have hu26 := Try.underlying26
  have hu24 := Try.underlying24
  have HR0 := Aside0.mk hr0
  have HC0 := Aside0.mk hc0
  clear hr0 hc0
  have HB := Aside0.mk (Below.refl w.heap.size w)
  have H : ((decoupagelaw26_awake.f k).bind fun t158 => (if t158 = true then (decoupagelaw26_OwnerTells.j0 k l0 a1 a2 (decide ((l0.length : Int) > 100))) else (decoupagelaw26_OwnerTells.j0 k l0 a1 a2 true))) = some r := h
  clear h
  have HC4 := Aside0.mk H
  clear H
  go_enter Try.func5, Try.ntmps5
  go_upto_region 1 with (fail)
  go_cut [17] (fun v17 wc => ∃ (kq : Nat) (x17_3 : Bool), v17 = .bool x17_3 ∧ Aside0 (decoupagelaw26_OwnerTells.j0 kq l0 a1 a2 x17_3 = some r) ∧ Aside0 (kq ≤ k) ∧ Aside0 (Below w.heap.size w wc))
  case first =>
    have H := HC4.out
    clear HC4
    replace H := Option.bind_eq_some_iff.mp H
    obtain ⟨t158, A50, H⟩ := H
    replace H : (if t158 = true then (decoupagelaw26_OwnerTells.j0 k l0 a1 a2 (decide ((l0.length : Int) > 100))) else (decoupagelaw26_OwnerTells.j0 k l0 a1 a2 true)) = some r := H
    have A5 := Aside0.mk A50
    clear A50
    by_cases c6 : t158 = true
    · subst c6
      have H1 : (decoupagelaw26_OwnerTells.j0 k l0 a1 a2 (decide ((l0.length : Int) > 100))) = some r := by rw [if_pos rfl] at H; exact H
      clear H
      have H := H1
      clear H1
      have H' := Aside0.mk H
      clear H
      go_wp2_with (first | ((with_reducible refine gate_callee (f := 14) rfl ?_); refine goesL_ (some 11) rfl rfl Try.func14 (by kernel_rfl) rfl #[] rfl (by (try simp only [List.map_toArray, List.map_cons, List.map_nil]); first | done | rfl | (simp only [List.length_drop, List.length_take]; rfl)) ?_; (with_reducible refine (decoupagelaw26_awake.calls k  true _ A5.out).mono ?_); rintro e w7 ⟨rfl, hb⟩; refine ⟨_, rfl, ?_⟩; have n0_ := Aside0.mk (below_step (by repeat (first | (with_reducible first | exact HB.out | apply below_alloc | apply pw_below_drewN | apply below_drew1) | exact HB.out)) hb); clear HB; have HB := n0_; clear n0_; (try clear hb); (try clear hb2); (try clear hk); (try clear hi)))
      go_meet
      case rel => exact ⟨_, (decide ((l0.length : Int) > 100)), (by first | rfl | (simp; done) | (simp [*]; done)), H', ⟨by first | omega | exact Nat.le_refl _⟩, ⟨by repeat (first | (with_reducible first | exact HB.out | apply below_alloc | apply pw_below_drewN | apply below_drew1) | exact HB.out)⟩⟩
    · replace c6 := Bool.eq_false_iff.mpr c6
      subst c6
      have H1 : (decoupagelaw26_OwnerTells.j0 k l0 a1 a2 true) = some r := by rw [if_neg (show ¬ (false = true) by decide)] at H; exact H
      clear H
      have H := H1
      clear H1
      have H' := Aside0.mk H
      clear H
      go_wp2_with (first | ((with_reducible refine gate_callee (f := 14) rfl ?_); refine goesL_ (some 11) rfl rfl Try.func14 (by kernel_rfl) rfl #[] rfl (by (try simp only [List.map_toArray, List.map_cons, List.map_nil]); first | done | rfl | (simp only [List.length_drop, List.length_take]; rfl)) ?_; (with_reducible refine (decoupagelaw26_awake.calls k  false _ A5.out).mono ?_); rintro e w8 ⟨rfl, hb⟩; refine ⟨_, rfl, ?_⟩; have n0_ := Aside0.mk (below_step (by repeat (first | (with_reducible first | exact HB.out | apply below_alloc | apply pw_below_drewN | apply below_drew1) | exact HB.out)) hb); clear HB; have HB := n0_; clear n0_; (try clear hb); (try clear hb2); (try clear hk); (try clear hi)))
      go_meet
      case rel => exact ⟨_, (true), (by first | rfl | (simp; done) | (simp [*]; done)), H', ⟨by first | omega | exact Nat.le_refl _⟩, ⟨by repeat (first | (with_reducible first | exact HB.out | apply below_alloc | apply pw_below_drewN | apply below_drew1) | exact HB.out)⟩⟩
  case rest =>
    clear HC4
    try clear c1
    try clear p2
    try clear c5
    try clear c6
    obtain ⟨kq, x17_3, rfl, HA, HJ3, HB⟩ := hcut
    cases kq with
    | zero => exact absurd HA.out (by simp [decoupagelaw26_OwnerTells.j0])
    | succ kj3 =>
      have H := HA.out
      clear HA
      simp only [decoupagelaw26_OwnerTells.j0] at H
      by_cases c9 : x17_3 = true
      · subst c9
        have H1 : ((decoupagelaw26_awake.f kj3).bind fun t159 => (some t159)) = some r := by rw [if_pos rfl] at H; exact H
        clear H
        have H := H1
        clear H1
        replace H := Option.bind_eq_some_iff.mp H
        obtain ⟨t159, A100, H⟩ := H
        replace H : (some t159) = some r := H
        have A10 := Aside0.mk A100
        clear A100
        obtain rfl := Option.some.inj H
        go_wp2_with (first | ((with_reducible refine gate_callee (f := 14) rfl ?_); refine goesL_ (some 18) rfl rfl Try.func14 (by kernel_rfl) rfl #[] rfl (by (try simp only [List.map_toArray, List.map_cons, List.map_nil]); first | done | rfl | (simp only [List.length_drop, List.length_take]; rfl)) ?_; (with_reducible refine (decoupagelaw26_awake.calls kj3  t159 _ A10.out).mono ?_); rintro e w11 ⟨rfl, hb⟩; refine ⟨_, rfl, ?_⟩; have n0_ := Aside0.mk (below_step (by repeat (first | (with_reducible first | exact HB.out | apply below_alloc | apply pw_below_drewN | apply below_drew1) | exact HB.out)) hb); clear HB; have HB := n0_; clear n0_; (try clear hb); (try clear hb2); (try clear hk); (try clear hi)))
        go_ret
        exact ⟨by first | rfl | (simp [errW_none, errW_some] <;> rfl) | (simp [*, errW_none, errW_some] <;> rfl), by repeat (first | (with_reducible first | exact HB.out | apply below_alloc | apply pw_below_drewN | apply below_drew1) | exact HB.out)⟩
      · replace c9 := Bool.eq_false_iff.mpr c9
        subst c9
        have H1 : ((owner_Of.f kj3 l0 a1 a2).bind fun bt160 => ((decoupageref26_Owner.f kj3 l0 a1 a2).bind fun t162 => (if (bt160.2 != (decide (t162 ≥ 0))) = true then (decoupagelaw26_OwnerTells.j1 kj3 l0 a1 a2 true) else (if bt160.1 = (mx t162 0) then ((owner_All.f kj3 l0 a1 a2).bind fun t163 => ((decoupageref26_All.f kj3 l0 a1 a2).bind fun t166 => ((decoupageref08_Same.f kj3 t163 t166).bind fun t169 => (decoupagelaw26_OwnerTells.j1 kj3 l0 a1 a2 (!t169))))) else (decoupagelaw26_OwnerTells.j1 kj3 l0 a1 a2 true))))) = some r := by rw [if_neg (show ¬ (false = true) by decide)] at H; exact H
        clear H
        have H := H1
        clear H1
        replace H := Option.bind_eq_some_iff.mp H
        obtain ⟨⟨t160, t161⟩, A120, H⟩ := H
        replace H : ((decoupageref26_Owner.f kj3 l0 a1 a2).bind fun t162 => (if (t161 != (decide (t162 ≥ 0))) = true then (decoupagelaw26_OwnerTells.j1 kj3 l0 a1 a2 true) else (if t160 = (mx t162 0) then ((owner_All.f kj3 l0 a1 a2).bind fun t163 => ((decoupageref26_All.f kj3 l0 a1 a2).bind fun t166 => ((decoupageref08_Same.f kj3 t163 t166).bind fun t169 => (decoupagelaw26_OwnerTells.j1 kj3 l0 a1 a2 (!t169))))) else (decoupagelaw26_OwnerTells.j1 kj3 l0 a1 a2 true)))) = some r := H
        have A12 := Aside0.mk A120
        clear A120
        replace H := Option.bind_eq_some_iff.mp H
        obtain ⟨t162, A130, H⟩ := H
        replace H : (if (t161 != (decide (t162 ≥ 0))) = true then (decoupagelaw26_OwnerTells.j1 kj3 l0 a1 a2 true) else (if t160 = (mx t162 0) then ((owner_All.f kj3 l0 a1 a2).bind fun t163 => ((decoupageref26_All.f kj3 l0 a1 a2).bind fun t166 => ((decoupageref08_Same.f kj3 t163 t166).bind fun t169 => (decoupagelaw26_OwnerTells.j1 kj3 l0 a1 a2 (!t169))))) else (decoupagelaw26_OwnerTells.j1 kj3 l0 a1 a2 true))) = some r := H
        have A13 := Aside0.mk A130
        clear A130
        have HC14 := Aside0.mk H
        clear H
        go_upto_region 5 with (first | ((with_reducible refine gate_callee (f := 15) rfl ?_); refine goesL_ (some 23) rfl rfl Try.func15 (by kernel_rfl) rfl #[.slice A0 l0.length c0, .int .i64 a1, .int .i64 a2] rfl (by (try simp only [List.map_toArray, List.map_cons, List.map_nil]); first | done | rfl | (simp only [List.length_drop, List.length_take]; rfl)) ?_; (with_reducible refine (owner_Of.calls kj3 _ _ l0 a1 a2 t160 t161 _ ?side1 ?side2 A12.out).mono ?_); (case side1 => repeat (first | exact (Kd.C_below HR0.out HB.out) | (with_reducible refine Kd.C_alloc ?_ _) | (with_reducible refine Kd.C_drewN ?_ _) | (with_reducible refine Kd.C_drew ?_))); (case side2 => exact HC0.out); rintro e w15 ⟨rfl, hb⟩; refine ⟨_, rfl, ?_⟩; have n0_ := Aside0.mk (below_step (by repeat (first | (with_reducible first | exact HB.out | apply below_alloc | apply pw_below_drewN | apply below_drew1) | exact HB.out)) hb); clear HB; have HB := n0_; clear n0_; (try clear hb); (try clear hb2); (try clear hk); (try clear hi)) | ((with_reducible refine gate_callee (f := 19) rfl ?_); refine goesL_ (some 29) rfl rfl Try.func19 (by kernel_rfl) rfl #[.slice A0 l0.length c0, .int .i64 a1, .int .i64 a2] rfl (by (try simp only [List.map_toArray, List.map_cons, List.map_nil]); first | done | rfl | (simp only [List.length_drop, List.length_take]; rfl)) ?_; (with_reducible refine (decoupageref26_Owner.calls kj3 _ _ l0 a1 a2 t162 _ ?side1 ?side2 A13.out).mono ?_); (case side1 => repeat (first | exact (Kd.C_below HR0.out HB.out) | (with_reducible refine Kd.C_alloc ?_ _) | (with_reducible refine Kd.C_drewN ?_ _) | (with_reducible refine Kd.C_drew ?_))); (case side2 => exact HC0.out); rintro e w16 ⟨rfl, hb⟩; refine ⟨_, rfl, ?_⟩; have n0_ := Aside0.mk (below_step (by repeat (first | (with_reducible first | exact HB.out | apply below_alloc | apply pw_below_drewN | apply below_drew1) | exact HB.out)) hb); clear HB; have HB := n0_; clear n0_; (try clear hb); (try clear hb2); (try clear hk); (try clear hi)))
        (try simp only [Act.put, List.setIfInBounds_toArray, List.set_cons_zero, List.set_cons_succ])
        go_cut [51] (fun v51 wc => ∃ (kq : Nat) (x51_13 : Bool), v51 = .bool x51_13 ∧ Aside0 (decoupagelaw26_OwnerTells.j1 kq l0 a1 a2 x51_13 = some r) ∧ Aside0 (kq ≤ kj3) ∧ Aside0 (Below w.heap.size w wc))
        case first =>
          have H := HC14.out
          clear HC14
          by_cases c17 : (t161 != (decide (t162 ≥ 0))) = true
          · rw [if_pos c17] at H
            have c17b0 : (t161 != (decide (t162 ≥ 0))) = true := c17
            (try (have c17b1 : decide (t161 = (decide (t162 ≥ 0))) = false := by simpa using c17))
            (try (have c17b2 : (t161 == (decide (t162 ≥ 0))) = false := by simpa using c17))
            (try (have c17b3 : ¬ (t161 = (decide (t162 ≥ 0))) := by simpa using c17))
            clear c17
            (first | rw [c17b0] | (simp only [i64_w, i32_w]; rw [c17b0]) | skip)
            have H' := Aside0.mk H
            clear H
            go_wp2
            go_meet
            case rel => exact ⟨_, (true), (by first | rfl | (simp; done) | (simp [*]; done)), H', ⟨by have := HJ3.out; first | omega | exact Nat.le_refl _⟩, ⟨by repeat (first | (with_reducible first | exact HB.out | apply below_alloc | apply pw_below_drewN | apply below_drew1) | exact HB.out)⟩⟩
          · rw [if_neg c17] at H
            have c17b0 : (t161 != (decide (t162 ≥ 0))) = false := by simpa using c17
            (try (have c17b1 : decide (t161 = (decide (t162 ≥ 0))) = true := by simpa using c17))
            (try (have c17b2 : (t161 == (decide (t162 ≥ 0))) = true := by simpa using c17))
            clear c17
            (first | rw [c17b0] | (simp only [i64_w, i32_w]; rw [c17b0]) | skip)
            obtain ⟨ji18, hji18⟩ : ∃ j_ : Int, (mx t162 0) = j_ := ⟨_, rfl⟩
            replace H : (if t160 = (ji18) then ((owner_All.f kj3 l0 a1 a2).bind fun t163 => ((decoupageref26_All.f kj3 l0 a1 a2).bind fun t166 => ((decoupageref08_Same.f kj3 t163 t166).bind fun t169 => (decoupagelaw26_OwnerTells.j1 kj3 l0 a1 a2 (!t169))))) else (decoupagelaw26_OwnerTells.j1 kj3 l0 a1 a2 true)) = some r := by first | (rw [hji18] at H; exact H) | (simp only [hji18] at H ⊢; exact H)
            (try (have hji18l : 0 ≤ ji18 := by (rw [← hji18]; unfold mx; (repeat' split) <;> omega)))
            (try (have hji18m : 0 ≤ ji18 := by omega))
            have hji18_ : (if t162 < 0 then 0 else t162) = ji18 := hji18
            by_cases c19 : t160 = (ji18)
            · rw [if_pos c19] at H
              have c19b0 : (t160 == (ji18)) = true := beq_iff_eq.mpr c19
              have c19b1 : (t160 != (ji18)) = false := bne_eq_false_iff_eq.mpr c19
              clear c19
              replace H := Option.bind_eq_some_iff.mp H
              obtain ⟨t163, A200, H⟩ := H
              replace H : ((decoupageref26_All.f kj3 l0 a1 a2).bind fun t166 => ((decoupageref08_Same.f kj3 t163 t166).bind fun t169 => (decoupagelaw26_OwnerTells.j1 kj3 l0 a1 a2 (!t169)))) = some r := H
              have A20 := Aside0.mk A200
              clear A200
              replace H := Option.bind_eq_some_iff.mp H
              obtain ⟨t166, A210, H⟩ := H
              replace H : ((decoupageref08_Same.f kj3 t163 t166).bind fun t169 => (decoupagelaw26_OwnerTells.j1 kj3 l0 a1 a2 (!t169))) = some r := H
              have A21 := Aside0.mk A210
              clear A210
              replace H := Option.bind_eq_some_iff.mp H
              obtain ⟨t169, A220, H⟩ := H
              replace H : (decoupagelaw26_OwnerTells.j1 kj3 l0 a1 a2 (!t169)) = some r := H
              have A22 := Aside0.mk A220
              clear A220
              have H' := Aside0.mk H
              clear H
              go_wp2_with (first | (go_at_call 17; (with_reducible refine (owner_All.calls kj3 _ _ l0 a1 a2 t163 _ ?side1 ?side2 A20.out).mono ?_); (case side1 => repeat (first | exact (Kd.C_below HR0.out HB.out) | (with_reducible refine Kd.C_alloc ?_ _) | (with_reducible refine Kd.C_drewN ?_ _) | (with_reducible refine Kd.C_drew ?_))); (case side2 => exact HC0.out); rintro e w23 ⟨v164, rfl, ho0, hb⟩; have n0_ := Aside0.mk (Kd.R_lower ho0 (below_size (by repeat (first | (with_reducible first | exact HB.out | apply below_alloc | apply pw_below_drewN | apply below_drew1) | exact HB.out)))); have n1_ := Aside0.mk (below_step (by repeat (first | (with_reducible first | exact HB.out | apply below_alloc | apply pw_below_drewN | apply below_drew1) | exact HB.out)) hb); clear HB; have HO165 := n0_; have HB := n1_; clear n0_ n1_; (try clear hb); (try clear hb2); (try clear hk); (try clear hi); (try clear ho0)) | (go_at_call 21; (with_reducible refine (decoupageref26_All.calls kj3 _ _ l0 a1 a2 t166 _ ?side1 ?side2 A21.out).mono ?_); (case side1 => repeat (first | exact (Kd.C_below HR0.out HB.out) | (with_reducible refine Kd.C_alloc ?_ _) | (with_reducible refine Kd.C_drewN ?_ _) | (with_reducible refine Kd.C_drew ?_))); (case side2 => exact HC0.out); rintro e w24 ⟨v167, rfl, ho0, hb⟩; have n0_ := Aside0.mk (Kd.R_elder' (by (with_reducible repeat (first | apply Kd.R_alloc | apply Kd.R_drewN | apply Kd.R_drew)); exact HO165.out) (Kd.R_base ho0) hb); have n1_ := Aside0.mk (Kd.R_lower (Kd.R_new' ho0 (Kd.R_lt (by (with_reducible repeat (first | apply Kd.R_alloc | apply Kd.R_drewN | apply Kd.R_drew)); exact HO165.out))) (below_size (by repeat (first | (with_reducible first | exact HB.out | apply below_alloc | apply pw_below_drewN | apply below_drew1) | exact HB.out)))); have n2_ := Aside0.mk (below_step (by repeat (first | (with_reducible first | exact HB.out | apply below_alloc | apply pw_below_drewN | apply below_drew1) | exact HB.out)) hb); clear HO165; clear HB; have HO165 := n0_; have HO168 := n1_; have HB := n2_; clear n0_ n1_ n2_; (try clear hb); (try clear hb2); (try clear hk); (try clear hi); (try clear ho0); obtain ⟨Ao25, co25, eo25⟩ := Kd.R_slice HO165.out; subst eo25; obtain ⟨Ao26, co26, eo26⟩ := Kd.R_slice HO168.out; subst eo26) | (go_at_call 20; (with_reducible refine (decoupageref08_Same.calls kj3 _ _ t163 _ _ t166 t169 _ ?side1 ?side2 ?side3 ?side4 A22.out).mono ?_); (case side1 => repeat (first | exact (Kd.R_reads' HO165.out).2.2 | (with_reducible refine Kd.C_alloc ?_ _) | (with_reducible refine Kd.C_drewN ?_ _) | (with_reducible refine Kd.C_drew ?_))); (case side2 => exact (Kd.R_reads' HO165.out).2.1); (case side3 => repeat (first | exact (Kd.R_reads' HO168.out).2.2 | (with_reducible refine Kd.C_alloc ?_ _) | (with_reducible refine Kd.C_drewN ?_ _) | (with_reducible refine Kd.C_drew ?_))); (case side4 => exact (Kd.R_reads' HO168.out).2.1); rintro e w' ⟨rfl, ⟨nd, rfl⟩⟩))
              go_meet
              case rel => exact ⟨_, (!t169), (by first | rfl | (simp; done) | (simp [*]; done)), H', ⟨by have := HJ3.out; first | omega | exact Nat.le_refl _⟩, ⟨by repeat (first | (with_reducible first | exact HB.out | apply below_alloc | apply pw_below_drewN | apply below_drew1) | exact HB.out)⟩⟩
            · rw [if_neg c19] at H
              have c19b0 : (t160 == (ji18)) = false := beq_eq_false_iff_ne.mpr c19
              have c19b1 : (t160 != (ji18)) = true := bne_iff_ne.mpr c19
              have H' := Aside0.mk H
              clear H
              go_wp2
              go_meet
              case rel => exact ⟨_, (true), (by first | rfl | (simp; done) | (simp [*]; done)), H', ⟨by have := HJ3.out; first | omega | exact Nat.le_refl _⟩, ⟨by repeat (first | (with_reducible first | exact HB.out | apply below_alloc | apply pw_below_drewN | apply below_drew1) | exact HB.out)⟩⟩
        case rest =>
          clear HC14
          try clear c1
          try clear p2
          try clear c5
          try clear c6
          try clear c9
          try clear c14
          try clear c15
          try clear c17
          try clear c17b0
          try clear c17b1
          try clear c17b2
          try clear c19
          try clear c19b0
          try clear c19b1
          try clear p2
          obtain ⟨kq, x51_13, rfl, HA, HJ13, HB⟩ := hcut
          cases kq with
          | zero => exact absurd HA.out (by simp [decoupagelaw26_OwnerTells.j1])
          | succ kj13 =>
            have H := HA.out
            clear HA
            simp only [decoupagelaw26_OwnerTells.j1] at H
            by_cases c27 : x51_13 = true
            · subst c27
              have H1 : (some false) = some r := by rw [if_pos rfl] at H; exact H
              clear H
              have H := H1
              clear H1
              obtain rfl := Option.some.inj H
              go_wp2
              go_ret
              exact ⟨by first | rfl | (simp [errW_none, errW_some] <;> rfl) | (simp [*, errW_none, errW_some] <;> rfl), by repeat (first | (with_reducible first | exact HB.out | apply below_alloc | apply pw_below_drewN | apply below_drew1) | exact HB.out)⟩
            · replace c27 := Bool.eq_false_iff.mpr c27
              subst c27
              have H1 : (decoupagelaw26_OwnerTells.l0 kj13 l0 a1 a2 (l0.length : Int) 0) = some r := by rw [if_neg (show ¬ (false = true) by decide)] at H; exact H
              clear H
              have H := H1
              clear H1
              have H' := Aside0.mk H
              clear H
              go_wp2
              go_loopg [54] kj13 (fun kq v54 w' => ∃ (x54_3 : Int), v54 = .int .i64 x54_3 ∧ Aside0 (decoupagelaw26_OwnerTells.l0 kq l0 a1 a2 (l0.length : Int) x54_3 = some r) ∧ Aside0 (kq ≤ kj13) ∧ Aside0 (Below w.heap.size w w'))
              case atStart => exact ⟨(0), (by first | rfl | (simp; done) | (simp [*]; done)), H', ⟨Nat.le_refl _⟩, ⟨by repeat (first | (with_reducible first | exact HB.out | apply below_alloc | apply pw_below_drewN | apply below_drew1) | exact HB.out)⟩⟩
              case round =>
                clear H'
                try clear c1
                try clear c2
                try clear p2
                try clear c5
                try clear c6
                try clear c9
                try clear c14
                try clear c15
                try clear c17
                try clear c17b0
                try clear c17b1
                try clear c17b2
                try clear c19
                try clear c19b0
                try clear c19b1
                try clear c27
                try clear p2
                obtain ⟨x54_3, rfl, HA, HK3, HB⟩ := hrel
                cases gk with
                | zero => exact absurd HA.out (by simp [decoupagelaw26_OwnerTells.l0])
                | succ k3 =>
                  have H := HA.out
                  clear HA
                  simp only [decoupagelaw26_OwnerTells.l0] at H
                  by_cases c28 : x54_3 < (l0.length : Int)
                  · rw [if_pos c28] at H
                    have c28b0 : decide (x54_3 < (l0.length : Int)) = true := decide_eq_true c28
                    clear c28
                    by_cases c29 : 0 ≤ x54_3
                    · rw [if_pos c29] at H
                      have c29b0 : decide (0 ≤ x54_3) = true := decide_eq_true c29
                      clear c29
                      by_cases c30 : x54_3 < (l0.length : Int)
                      · rw [if_pos c30] at H
                        have c30b0 : decide (x54_3 < (l0.length : Int)) = true := decide_eq_true c30
                        clear c30
                        replace H := Option.bind_eq_some_iff.mp H
                        obtain ⟨t171, A310, H⟩ := H
                        replace H : ((decoupageref26_Shows.f ((rd_T26 l0 x54_3).f0) ((rd_T26 l0 x54_3).f1) ((rd_T26 l0 x54_3).f2.f0) ((rd_T26 l0 x54_3).f2.f1) ((rd_T26 l0 x54_3).f2.f2) ((rd_T26 l0 x54_3).f2.f3) ((rd_T26 l0 x54_3).f3.f0) ((rd_T26 l0 x54_3).f3.f1) ((rd_T26 l0 x54_3).f3.f2) ((rd_T26 l0 x54_3).f3.f3) ((rd_T26 l0 x54_3).f4.f0) ((rd_T26 l0 x54_3).f4.f1) ((rd_T26 l0 x54_3).f4.f2) ((rd_T26 l0 x54_3).f4.f3) ((rd_T26 l0 x54_3).f5) a1 a2).bind fun t173 => (if (t171 != t173) = true then (some false) else ((owner_Seen.f ((rd_T26 l0 x54_3).f0) ((rd_T26 l0 x54_3).f1) ((rd_T26 l0 x54_3).f2.f0) ((rd_T26 l0 x54_3).f2.f1) ((rd_T26 l0 x54_3).f2.f2) ((rd_T26 l0 x54_3).f2.f3) ((rd_T26 l0 x54_3).f3.f0) ((rd_T26 l0 x54_3).f3.f1) ((rd_T26 l0 x54_3).f3.f2) ((rd_T26 l0 x54_3).f3.f3) ((rd_T26 l0 x54_3).f4.f0) ((rd_T26 l0 x54_3).f4.f1) ((rd_T26 l0 x54_3).f4.f2) ((rd_T26 l0 x54_3).f4.f3) ((rd_T26 l0 x54_3).f5)).bind fun bt175 => ((decoupageref02_Meet.f k3 ((rd_T26 l0 x54_3).f2.f0) ((rd_T26 l0 x54_3).f2.f1) ((rd_T26 l0 x54_3).f2.f2) ((rd_T26 l0 x54_3).f2.f3) ((rd_T26 l0 x54_3).f4.f0) ((rd_T26 l0 x54_3).f4.f1) ((rd_T26 l0 x54_3).f4.f2) ((rd_T26 l0 x54_3).f4.f3)).bind fun bt181 => (if (!(bt175.1 == bt181.1) || (!(bt175.2.1 == bt181.2.1) || (!(bt175.2.2.1 == bt181.2.2.1) || (!(bt175.2.2.2 == bt181.2.2.2))))) = true then (some false) else (decoupagelaw26_OwnerTells.l0 k3 l0 a1 a2 (l0.length : Int) (wrap64 (x54_3 + 1)))))))) = some r := H
                        have A31 := Aside0.mk A310
                        clear A310
                        replace H := Option.bind_eq_some_iff.mp H
                        obtain ⟨t173, A320, H⟩ := H
                        replace H : (if (t171 != t173) = true then (some false) else ((owner_Seen.f ((rd_T26 l0 x54_3).f0) ((rd_T26 l0 x54_3).f1) ((rd_T26 l0 x54_3).f2.f0) ((rd_T26 l0 x54_3).f2.f1) ((rd_T26 l0 x54_3).f2.f2) ((rd_T26 l0 x54_3).f2.f3) ((rd_T26 l0 x54_3).f3.f0) ((rd_T26 l0 x54_3).f3.f1) ((rd_T26 l0 x54_3).f3.f2) ((rd_T26 l0 x54_3).f3.f3) ((rd_T26 l0 x54_3).f4.f0) ((rd_T26 l0 x54_3).f4.f1) ((rd_T26 l0 x54_3).f4.f2) ((rd_T26 l0 x54_3).f4.f3) ((rd_T26 l0 x54_3).f5)).bind fun bt175 => ((decoupageref02_Meet.f k3 ((rd_T26 l0 x54_3).f2.f0) ((rd_T26 l0 x54_3).f2.f1) ((rd_T26 l0 x54_3).f2.f2) ((rd_T26 l0 x54_3).f2.f3) ((rd_T26 l0 x54_3).f4.f0) ((rd_T26 l0 x54_3).f4.f1) ((rd_T26 l0 x54_3).f4.f2) ((rd_T26 l0 x54_3).f4.f3)).bind fun bt181 => (if (!(bt175.1 == bt181.1) || (!(bt175.2.1 == bt181.2.1) || (!(bt175.2.2.1 == bt181.2.2.1) || (!(bt175.2.2.2 == bt181.2.2.2))))) = true then (some false) else (decoupagelaw26_OwnerTells.l0 k3 l0 a1 a2 (l0.length : Int) (wrap64 (x54_3 + 1))))))) = some r := H
                        have A32 := Aside0.mk A320
                        clear A320
                        by_cases c33 : (t171 != t173) = true
                        · rw [if_pos c33] at H
                          have c33b0 : (t171 != t173) = true := c33
                          (try (have c33b1 : decide (t171 = t173) = false := by simpa using c33))
                          (try (have c33b2 : (t171 == t173) = false := by simpa using c33))
                          (try (have c33b3 : ¬ (t171 = t173) := by simpa using c33))
                          clear c33
                          obtain rfl := Option.some.inj H
                          try go_wp2
                          have n0_ := Aside0.mk (below_drew1 HB.out)
                          clear HB
                          have HB := n0_
                          clear n0_
                          have p170 : 0 ≤ (x54_3 : Int) := of_decide_eq_true (by first | (with_reducible assumption) | assumption)
                          have q170 : x54_3 < (l0.length : Int) := of_decide_eq_true (by first | (with_reducible assumption) | assumption)
                          obtain ⟨ad170, e170, hx170_0, hx170_1, hx170_2, hx170_3, hx170_4, hx170_5, hx170_6, hx170_7, hx170_8, hx170_9, hx170_10, hx170_11, hx170_12, hx170_13, hx170_14⟩ := at_T26 HR0.out x54_3 p170 q170
                          have hw170_14 := hx170_14
                          have hw170_13 := hx170_13
                          have hw170_12 := hx170_12
                          have hw170_11 := hx170_11
                          have hw170_10 := hx170_10
                          have hw170_9 := hx170_9
                          have hw170_8 := hx170_8
                          have hw170_7 := hx170_7
                          have hw170_6 := hx170_6
                          have hw170_5 := hx170_5
                          have hw170_4 := hx170_4
                          have hw170_3 := hx170_3
                          have hw170_2 := hx170_2
                          have hw170_1 := hx170_1
                          have hw170_0 := hx170_0
                          cases e170
                          replace hx170_0 := (HB.out.cell (World.block_lt_of_cell? w _ hx170_0)).trans hx170_0
                          replace hx170_1 := (HB.out.cell (World.block_lt_of_cell? w _ hx170_1)).trans hx170_1
                          replace hx170_2 := (HB.out.cell (World.block_lt_of_cell? w _ hx170_2)).trans hx170_2
                          replace hx170_3 := (HB.out.cell (World.block_lt_of_cell? w _ hx170_3)).trans hx170_3
                          replace hx170_4 := (HB.out.cell (World.block_lt_of_cell? w _ hx170_4)).trans hx170_4
                          replace hx170_5 := (HB.out.cell (World.block_lt_of_cell? w _ hx170_5)).trans hx170_5
                          replace hx170_6 := (HB.out.cell (World.block_lt_of_cell? w _ hx170_6)).trans hx170_6
                          replace hx170_7 := (HB.out.cell (World.block_lt_of_cell? w _ hx170_7)).trans hx170_7
                          replace hx170_8 := (HB.out.cell (World.block_lt_of_cell? w _ hx170_8)).trans hx170_8
                          replace hx170_9 := (HB.out.cell (World.block_lt_of_cell? w _ hx170_9)).trans hx170_9
                          replace hx170_10 := (HB.out.cell (World.block_lt_of_cell? w _ hx170_10)).trans hx170_10
                          replace hx170_11 := (HB.out.cell (World.block_lt_of_cell? w _ hx170_11)).trans hx170_11
                          replace hx170_12 := (HB.out.cell (World.block_lt_of_cell? w _ hx170_12)).trans hx170_12
                          replace hx170_13 := (HB.out.cell (World.block_lt_of_cell? w _ hx170_13)).trans hx170_13
                          replace hx170_14 := (HB.out.cell (World.block_lt_of_cell? w _ hx170_14)).trans hx170_14
                          replace p170 := eq_true p170
                          replace q170 := eq_true q170
                          have p172 : 0 ≤ (x54_3 : Int) := of_decide_eq_true (by first | (with_reducible assumption) | assumption)
                          have q172 : x54_3 < (l0.length : Int) := of_decide_eq_true (by first | (with_reducible assumption) | assumption)
                          obtain ⟨ad172, e172, hx172_0, hx172_1, hx172_2, hx172_3, hx172_4, hx172_5, hx172_6, hx172_7, hx172_8, hx172_9, hx172_10, hx172_11, hx172_12, hx172_13, hx172_14⟩ := at_T26 HR0.out x54_3 p172 q172
                          have hw172_14 := hx172_14
                          have hw172_13 := hx172_13
                          have hw172_12 := hx172_12
                          have hw172_11 := hx172_11
                          have hw172_10 := hx172_10
                          have hw172_9 := hx172_9
                          have hw172_8 := hx172_8
                          have hw172_7 := hx172_7
                          have hw172_6 := hx172_6
                          have hw172_5 := hx172_5
                          have hw172_4 := hx172_4
                          have hw172_3 := hx172_3
                          have hw172_2 := hx172_2
                          have hw172_1 := hx172_1
                          have hw172_0 := hx172_0
                          obtain rfl : ad170 = ad172 := (by injection e172)
                          replace hx172_0 := (HB.out.cell (World.block_lt_of_cell? w _ hx172_0)).trans hx172_0
                          replace hx172_1 := (HB.out.cell (World.block_lt_of_cell? w _ hx172_1)).trans hx172_1
                          replace hx172_2 := (HB.out.cell (World.block_lt_of_cell? w _ hx172_2)).trans hx172_2
                          replace hx172_3 := (HB.out.cell (World.block_lt_of_cell? w _ hx172_3)).trans hx172_3
                          replace hx172_4 := (HB.out.cell (World.block_lt_of_cell? w _ hx172_4)).trans hx172_4
                          replace hx172_5 := (HB.out.cell (World.block_lt_of_cell? w _ hx172_5)).trans hx172_5
                          replace hx172_6 := (HB.out.cell (World.block_lt_of_cell? w _ hx172_6)).trans hx172_6
                          replace hx172_7 := (HB.out.cell (World.block_lt_of_cell? w _ hx172_7)).trans hx172_7
                          replace hx172_8 := (HB.out.cell (World.block_lt_of_cell? w _ hx172_8)).trans hx172_8
                          replace hx172_9 := (HB.out.cell (World.block_lt_of_cell? w _ hx172_9)).trans hx172_9
                          replace hx172_10 := (HB.out.cell (World.block_lt_of_cell? w _ hx172_10)).trans hx172_10
                          replace hx172_11 := (HB.out.cell (World.block_lt_of_cell? w _ hx172_11)).trans hx172_11
                          replace hx172_12 := (HB.out.cell (World.block_lt_of_cell? w _ hx172_12)).trans hx172_12
                          replace hx172_13 := (HB.out.cell (World.block_lt_of_cell? w _ hx172_13)).trans hx172_13
                          replace hx172_14 := (HB.out.cell (World.block_lt_of_cell? w _ hx172_14)).trans hx172_14
                          replace p172 := eq_true p172
                          replace q172 := eq_true q172
                          refine start_ (n := 34) (S := fun w' => w'.cell? (ad170.add ((x54_3).toNat * 15)) = some (.int .i64 ((rd_T26 l0 x54_3).f0)) ∧ w'.cell? ⟨(ad170.add ((x54_3).toNat * 15)).block, (ad170.add ((x54_3).toNat * 15)).off + 1, none⟩ = some (.int .i64 ((rd_T26 l0 x54_3).f1)) ∧ w'.cell? ⟨(ad170.add ((x54_3).toNat * 15)).block, (ad170.add ((x54_3).toNat * 15)).off + 2, none⟩ = some (.int .i64 ((rd_T26 l0 x54_3).f2.f0)) ∧ w'.cell? ⟨(ad170.add ((x54_3).toNat * 15)).block, (ad170.add ((x54_3).toNat * 15)).off + 3, none⟩ = some (.int .i64 ((rd_T26 l0 x54_3).f2.f1)) ∧ w'.cell? ⟨(ad170.add ((x54_3).toNat * 15)).block, (ad170.add ((x54_3).toNat * 15)).off + 4, none⟩ = some (.int .i64 ((rd_T26 l0 x54_3).f2.f2)) ∧ w'.cell? ⟨(ad170.add ((x54_3).toNat * 15)).block, (ad170.add ((x54_3).toNat * 15)).off + 5, none⟩ = some (.int .i64 ((rd_T26 l0 x54_3).f2.f3)) ∧ w'.cell? ⟨(ad170.add ((x54_3).toNat * 15)).block, (ad170.add ((x54_3).toNat * 15)).off + 6, none⟩ = some (.int .i64 ((rd_T26 l0 x54_3).f3.f0)) ∧ w'.cell? ⟨(ad170.add ((x54_3).toNat * 15)).block, (ad170.add ((x54_3).toNat * 15)).off + 7, none⟩ = some (.int .i64 ((rd_T26 l0 x54_3).f3.f1)) ∧ w'.cell? ⟨(ad170.add ((x54_3).toNat * 15)).block, (ad170.add ((x54_3).toNat * 15)).off + 8, none⟩ = some (.int .i64 ((rd_T26 l0 x54_3).f3.f2)) ∧ w'.cell? ⟨(ad170.add ((x54_3).toNat * 15)).block, (ad170.add ((x54_3).toNat * 15)).off + 9, none⟩ = some (.int .i64 ((rd_T26 l0 x54_3).f3.f3)) ∧ w'.cell? ⟨(ad170.add ((x54_3).toNat * 15)).block, (ad170.add ((x54_3).toNat * 15)).off + 10, none⟩ = some (.int .i64 ((rd_T26 l0 x54_3).f4.f0)) ∧ w'.cell? ⟨(ad170.add ((x54_3).toNat * 15)).block, (ad170.add ((x54_3).toNat * 15)).off + 11, none⟩ = some (.int .i64 ((rd_T26 l0 x54_3).f4.f1)) ∧ w'.cell? ⟨(ad170.add ((x54_3).toNat * 15)).block, (ad170.add ((x54_3).toNat * 15)).off + 12, none⟩ = some (.int .i64 ((rd_T26 l0 x54_3).f4.f2)) ∧ w'.cell? ⟨(ad170.add ((x54_3).toNat * 15)).block, (ad170.add ((x54_3).toNat * 15)).off + 13, none⟩ = some (.int .i64 ((rd_T26 l0 x54_3).f4.f3)) ∧ w'.cell? ⟨(ad170.add ((x54_3).toNat * 15)).block, (ad170.add ((x54_3).toNat * 15)).off + 14, none⟩ = some (.int .i64 ((rd_T26 l0 x54_3).f5)) ∧ w'.cell? (ad170.add ((x54_3).toNat * 15)) = some (.int .i64 ((rd_T26 l0 x54_3).f0)) ∧ w'.cell? ⟨(ad170.add ((x54_3).toNat * 15)).block, (ad170.add ((x54_3).toNat * 15)).off + 1, none⟩ = some (.int .i64 ((rd_T26 l0 x54_3).f1)) ∧ w'.cell? ⟨(ad170.add ((x54_3).toNat * 15)).block, (ad170.add ((x54_3).toNat * 15)).off + 2, none⟩ = some (.int .i64 ((rd_T26 l0 x54_3).f2.f0)) ∧ w'.cell? ⟨(ad170.add ((x54_3).toNat * 15)).block, (ad170.add ((x54_3).toNat * 15)).off + 3, none⟩ = some (.int .i64 ((rd_T26 l0 x54_3).f2.f1)) ∧ w'.cell? ⟨(ad170.add ((x54_3).toNat * 15)).block, (ad170.add ((x54_3).toNat * 15)).off + 4, none⟩ = some (.int .i64 ((rd_T26 l0 x54_3).f2.f2)) ∧ w'.cell? ⟨(ad170.add ((x54_3).toNat * 15)).block, (ad170.add ((x54_3).toNat * 15)).off + 5, none⟩ = some (.int .i64 ((rd_T26 l0 x54_3).f2.f3)) ∧ w'.cell? ⟨(ad170.add ((x54_3).toNat * 15)).block, (ad170.add ((x54_3).toNat * 15)).off + 6, none⟩ = some (.int .i64 ((rd_T26 l0 x54_3).f3.f0)) ∧ w'.cell? ⟨(ad170.add ((x54_3).toNat * 15)).block, (ad170.add ((x54_3).toNat * 15)).off + 7, none⟩ = some (.int .i64 ((rd_T26 l0 x54_3).f3.f1)) ∧ w'.cell? ⟨(ad170.add ((x54_3).toNat * 15)).block, (ad170.add ((x54_3).toNat * 15)).off + 8, none⟩ = some (.int .i64 ((rd_T26 l0 x54_3).f3.f2)) ∧ w'.cell? ⟨(ad170.add ((x54_3).toNat * 15)).block, (ad170.add ((x54_3).toNat * 15)).off + 9, none⟩ = some (.int .i64 ((rd_T26 l0 x54_3).f3.f3)) ∧ w'.cell? ⟨(ad170.add ((x54_3).toNat * 15)).block, (ad170.add ((x54_3).toNat * 15)).off + 10, none⟩ = some (.int .i64 ((rd_T26 l0 x54_3).f4.f0)) ∧ w'.cell? ⟨(ad170.add ((x54_3).toNat * 15)).block, (ad170.add ((x54_3).toNat * 15)).off + 11, none⟩ = some (.int .i64 ((rd_T26 l0 x54_3).f4.f1)) ∧ w'.cell? ⟨(ad170.add ((x54_3).toNat * 15)).block, (ad170.add ((x54_3).toNat * 15)).off + 12, none⟩ = some (.int .i64 ((rd_T26 l0 x54_3).f4.f2)) ∧ w'.cell? ⟨(ad170.add ((x54_3).toNat * 15)).block, (ad170.add ((x54_3).toNat * 15)).off + 13, none⟩ = some (.int .i64 ((rd_T26 l0 x54_3).f4.f3)) ∧ w'.cell? ⟨(ad170.add ((x54_3).toNat * 15)).block, (ad170.add ((x54_3).toNat * 15)).off + 14, none⟩ = some (.int .i64 ((rd_T26 l0 x54_3).f5))) (ds := []) #[false, false, false, false, false, false, false, false, false, false, false, false, false, false, false, false, false, false, false, false, false, false, false, false, false, false, false, false, false, false, false, false, false, false] (by kernel_rfl) rfl rfl ⟨((HB.out.cell (World.block_lt_of_cell? w _ hw170_0)).trans hw170_0), ((HB.out.cell (World.block_lt_of_cell? w _ hw170_1)).trans hw170_1), ((HB.out.cell (World.block_lt_of_cell? w _ hw170_2)).trans hw170_2), ((HB.out.cell (World.block_lt_of_cell? w _ hw170_3)).trans hw170_3), ((HB.out.cell (World.block_lt_of_cell? w _ hw170_4)).trans hw170_4), ((HB.out.cell (World.block_lt_of_cell? w _ hw170_5)).trans hw170_5), ((HB.out.cell (World.block_lt_of_cell? w _ hw170_6)).trans hw170_6), ((HB.out.cell (World.block_lt_of_cell? w _ hw170_7)).trans hw170_7), ((HB.out.cell (World.block_lt_of_cell? w _ hw170_8)).trans hw170_8), ((HB.out.cell (World.block_lt_of_cell? w _ hw170_9)).trans hw170_9), ((HB.out.cell (World.block_lt_of_cell? w _ hw170_10)).trans hw170_10), ((HB.out.cell (World.block_lt_of_cell? w _ hw170_11)).trans hw170_11), ((HB.out.cell (World.block_lt_of_cell? w _ hw170_12)).trans hw170_12), ((HB.out.cell (World.block_lt_of_cell? w _ hw170_13)).trans hw170_13), ((HB.out.cell (World.block_lt_of_cell? w _ hw170_14)).trans hw170_14), ((HB.out.cell (World.block_lt_of_cell? w _ hw172_0)).trans hw172_0), ((HB.out.cell (World.block_lt_of_cell? w _ hw172_1)).trans hw172_1), ((HB.out.cell (World.block_lt_of_cell? w _ hw172_2)).trans hw172_2), ((HB.out.cell (World.block_lt_of_cell? w _ hw172_3)).trans hw172_3), ((HB.out.cell (World.block_lt_of_cell? w _ hw172_4)).trans hw172_4), ((HB.out.cell (World.block_lt_of_cell? w _ hw172_5)).trans hw172_5), ((HB.out.cell (World.block_lt_of_cell? w _ hw172_6)).trans hw172_6), ((HB.out.cell (World.block_lt_of_cell? w _ hw172_7)).trans hw172_7), ((HB.out.cell (World.block_lt_of_cell? w _ hw172_8)).trans hw172_8), ((HB.out.cell (World.block_lt_of_cell? w _ hw172_9)).trans hw172_9), ((HB.out.cell (World.block_lt_of_cell? w _ hw172_10)).trans hw172_10), ((HB.out.cell (World.block_lt_of_cell? w _ hw172_11)).trans hw172_11), ((HB.out.cell (World.block_lt_of_cell? w _ hw172_12)).trans hw172_12), ((HB.out.cell (World.block_lt_of_cell? w _ hw172_13)).trans hw172_13), ((HB.out.cell (World.block_lt_of_cell? w _ hw172_14)).trans hw172_14)⟩ (fun hHeld => ?_); refine with_tabW decoupagelaw26_OwnerTells.tab10 decoupagelaw26_OwnerTells.bits10 (fun HT_ HW_ => ?_)
                          generalize wr.drew = w34 at HB hx170_0 hx170_1 hx170_10 hx170_11 hx170_12 hx170_13 hx170_14 hx170_2 hx170_3 hx170_4 hx170_5 hx170_6 hx170_7 hx170_8 hx170_9 hx172_0 hx172_1 hx172_10 hx172_11 hx172_12 hx172_13 hx172_14 hx172_2 hx172_3 hx172_4 hx172_5 hx172_6 hx172_7 hx172_8 hx172_9 hHeld ⊢
                          refine pure_ (i := 0) (N := some 57) (v := ?_) (a' := ?_) #[true, false, false, false, false, false, false, false, false, false, false, false, false, false, false, false, false, false, false, false, false, false, false, false, false, false, false, false, false, false, false, false, false, false] rfl rfl (any_of HT_.out (by kernel_rfl)) (fun _ _ _ h => h) (Or.inl ⟨by rfl, ?_⟩) ?_ ?_
                          rotate_left
                          · intro w'
                            go_simp
                            with_reducible rfl
                          rotate_left
                          · simp only [Act.put, List.setIfInBounds_toArray, List.set_cons_zero, List.set_cons_succ, i64_w, i32_w]
                            rfl
                          refine pure_ (i := 1) (N := some 58) (v := ?_) (a' := ?_) #[true, true, false, false, false, false, false, false, false, false, false, false, false, false, false, false, false, false, false, false, false, false, false, false, false, false, false, false, false, false, false, false, false, false] rfl rfl (any_of HT_.out (by kernel_rfl)) (fun _ _ _ h => h) (Or.inl ⟨by rfl, ?_⟩) ?_ ?_
                          rotate_left
                          · intro w'
                            go_simp
                            with_reducible rfl
                          rotate_left
                          · simp only [Act.put, List.setIfInBounds_toArray, List.set_cons_zero, List.set_cons_succ, i64_w, i32_w]
                            rfl
                          refine pure_ (i := 2) (N := some 59) (v := ?_) (a' := ?_) #[true, true, true, false, false, false, false, false, false, false, false, false, false, false, false, false, false, false, false, false, false, false, false, false, false, false, false, false, false, false, false, false, false, false] rfl rfl (any_of HT_.out (by kernel_rfl)) (fun _ _ _ h => h) (Or.inl ⟨by rfl, ?_⟩) ?_ ?_
                          rotate_left
                          · intro w'
                            go_simp
                            with_reducible rfl
                          rotate_left
                          · simp only [Act.put, List.setIfInBounds_toArray, List.set_cons_zero, List.set_cons_succ, i64_w, i32_w]
                            rfl
                          refine pure_ (i := 4) (N := some 61) (v := ?_) (a' := ?_) #[true, true, true, false, true, false, false, false, false, false, false, false, false, false, false, false, false, false, false, false, false, false, false, false, false, false, false, false, false, false, false, false, false, false] rfl rfl (any_of HT_.out (by kernel_rfl)) (fun _ _ _ h => h) (Or.inl ⟨by rfl, ?_⟩) ?_ ?_
                          rotate_left
                          · intro w'
                            go_simp
                            with_reducible rfl
                          rotate_left
                          · simp only [Act.put, List.setIfInBounds_toArray, List.set_cons_zero, List.set_cons_succ, i64_w, i32_w]
                            rfl
                          refine pure_ (i := 5) (N := some 62) (v := ?_) (a' := ?_) #[true, true, true, false, true, true, false, false, false, false, false, false, false, false, false, false, false, false, false, false, false, false, false, false, false, false, false, false, false, false, false, false, false, false] rfl rfl (any_of HT_.out (by kernel_rfl)) (fun _ _ _ h => h) (Or.inl ⟨by rfl, ?_⟩) ?_ ?_
                          rotate_left
                          · intro w'
                            go_simp
                            with_reducible rfl
                          rotate_left
                          · simp only [Act.put, List.setIfInBounds_toArray, List.set_cons_zero, List.set_cons_succ, i64_w, i32_w]
                            rfl
                          refine pure_ (i := 7) (N := some 64) (v := ?_) (a' := ?_) #[true, true, true, false, true, true, false, true, false, false, false, false, false, false, false, false, false, false, false, false, false, false, false, false, false, false, false, false, false, false, false, false, false, false] rfl rfl (any_of HT_.out (by kernel_rfl)) (fun _ _ _ h => h) (Or.inl ⟨by rfl, ?_⟩) ?_ ?_
                          rotate_left
                          · intro w'
                            go_simp
                            with_reducible rfl
                          rotate_left
                          · simp only [Act.put, List.setIfInBounds_toArray, List.set_cons_zero, List.set_cons_succ, i64_w, i32_w]
                            rfl
                          refine pure_ (i := 8) (N := some 65) (v := ?_) (a' := ?_) #[true, true, true, false, true, true, false, true, true, false, false, false, false, false, false, false, false, false, false, false, false, false, false, false, false, false, false, false, false, false, false, false, false, false] rfl rfl (any_of HT_.out (by kernel_rfl)) (fun _ _ _ h => h) (Or.inl ⟨by rfl, ?_⟩) ?_ ?_
                          rotate_left
                          · intro w'
                            go_simp
                            with_reducible rfl
                          rotate_left
                          · simp only [Act.put, List.setIfInBounds_toArray, List.set_cons_zero, List.set_cons_succ, i64_w, i32_w]
                            rfl
                          refine pure_ (i := 9) (N := some 66) (v := ?_) (a' := ?_) #[true, true, true, false, true, true, false, true, true, true, false, false, false, false, false, false, false, false, false, false, false, false, false, false, false, false, false, false, false, false, false, false, false, false] rfl rfl (any_of HT_.out (by kernel_rfl)) (fun _ _ _ h => h) (Or.inl ⟨by rfl, ?_⟩) ?_ ?_
                          rotate_left
                          · intro w'
                            go_simp
                            with_reducible rfl
                          rotate_left
                          · simp only [Act.put, List.setIfInBounds_toArray, List.set_cons_zero, List.set_cons_succ, i64_w, i32_w]
                            rfl
                          refine pure_ (i := 11) (N := some 68) (v := ?_) (a' := ?_) #[true, true, true, false, true, true, false, true, true, true, false, true, false, false, false, false, false, false, false, false, false, false, false, false, false, false, false, false, false, false, false, false, false, false] rfl rfl (any_of HT_.out (by kernel_rfl)) (fun _ _ _ h => h) (Or.inl ⟨by rfl, ?_⟩) ?_ ?_
                          rotate_left
                          · intro w'
                            go_simp
                            with_reducible rfl
                          rotate_left
                          · simp only [Act.put, List.setIfInBounds_toArray, List.set_cons_zero, List.set_cons_succ, i64_w, i32_w]
                            rfl
                          refine pure_ (i := 12) (N := some 69) (v := ?_) (a' := ?_) #[true, true, true, false, true, true, false, true, true, true, false, true, true, false, false, false, false, false, false, false, false, false, false, false, false, false, false, false, false, false, false, false, false, false] rfl rfl (any_of HT_.out (by kernel_rfl)) (fun _ _ _ h => h) (Or.inl ⟨by rfl, ?_⟩) ?_ ?_
                          rotate_left
                          · intro w'
                            go_simp
                            with_reducible rfl
                          rotate_left
                          · simp only [Act.put, List.setIfInBounds_toArray, List.set_cons_zero, List.set_cons_succ, i64_w, i32_w]
                            rfl
                          refine take_ (i := 3) (N := some 60) (v := ?_) (a' := ?_) #[true, true, true, true, true, true, false, true, true, true, false, true, true, false, false, false, false, false, false, false, false, false, false, false, false, false, false, false, false, false, false, false, false, false] rfl rfl (take_ofW HT_.out HW_.out (by kernel_rfl)) (fun _ _ _ h => h) (Or.inl ⟨by rfl, ?_⟩) hHeld ?_ ?_
                          rotate_left
                          · rintro w' ⟨s0, s1, s2, s3, s4, s5, s6, s7, s8, s9, s10, s11, s12, s13, s14, s15, s16, s17, s18, s19, s20, s21, s22, s23, s24, s25, s26, s27, s28, s29⟩
                            go_simp
                            with_reducible rfl
                          rotate_left
                          · simp only [Act.put, List.setIfInBounds_toArray, List.set_cons_zero, List.set_cons_succ, i64_w, i32_w]
                            rfl
                          refine take_ (i := 10) (N := some 67) (v := ?_) (a' := ?_) #[true, true, true, true, true, true, false, true, true, true, true, true, true, false, false, false, false, false, false, false, false, false, false, false, false, false, false, false, false, false, false, false, false, false] rfl rfl (take_ofW HT_.out HW_.out (by kernel_rfl)) (fun _ _ _ h => h) (Or.inl ⟨by rfl, ?_⟩) hHeld ?_ ?_
                          rotate_left
                          · rintro w' ⟨s0, s1, s2, s3, s4, s5, s6, s7, s8, s9, s10, s11, s12, s13, s14, s15, s16, s17, s18, s19, s20, s21, s22, s23, s24, s25, s26, s27, s28, s29⟩
                            go_simp
                            with_reducible rfl
                          rotate_left
                          · simp only [Act.put, List.setIfInBounds_toArray, List.set_cons_zero, List.set_cons_succ, i64_w, i32_w]
                            rfl
                          refine one_ (i := 6) (N := some 63) #[true, true, true, true, true, true, true, true, true, true, true, true, true, false, false, false, false, false, false, false, false, false, false, false, false, false, false, false, false, false, false, false, false, false] rfl rfl (one_of HT_.out (by kernel_rfl)) (by decide) (fun K hK => ?_)
                          refine goes_ Try.func18 (by kernel_rfl) rfl #[.agg #[.int .i64 ((rd_T26 l0 x54_3).f0), .int .i64 ((rd_T26 l0 x54_3).f1), .int .i64 ((rd_T26 l0 x54_3).f2.f0), .int .i64 ((rd_T26 l0 x54_3).f2.f1), .int .i64 ((rd_T26 l0 x54_3).f2.f2), .int .i64 ((rd_T26 l0 x54_3).f2.f3), .int .i64 ((rd_T26 l0 x54_3).f3.f0), .int .i64 ((rd_T26 l0 x54_3).f3.f1), .int .i64 ((rd_T26 l0 x54_3).f3.f2), .int .i64 ((rd_T26 l0 x54_3).f3.f3), .int .i64 ((rd_T26 l0 x54_3).f4.f0), .int .i64 ((rd_T26 l0 x54_3).f4.f1), .int .i64 ((rd_T26 l0 x54_3).f4.f2), .int .i64 ((rd_T26 l0 x54_3).f4.f3), .int .i64 ((rd_T26 l0 x54_3).f5)], .int .i64 a1, .int .i64 a2] (by rfl) rfl rfl (by (try simp only [List.map_toArray, List.map_cons, List.map_nil]); first | done | rfl | (simp only [List.length_drop, List.length_take]; rfl)) ?_
                          with_reducible refine (owner_Shows.calls ((rd_T26 l0 x54_3).f0) ((rd_T26 l0 x54_3).f1) ((rd_T26 l0 x54_3).f2.f0) ((rd_T26 l0 x54_3).f2.f1) ((rd_T26 l0 x54_3).f2.f2) ((rd_T26 l0 x54_3).f2.f3) ((rd_T26 l0 x54_3).f3.f0) ((rd_T26 l0 x54_3).f3.f1) ((rd_T26 l0 x54_3).f3.f2) ((rd_T26 l0 x54_3).f3.f3) ((rd_T26 l0 x54_3).f4.f0) ((rd_T26 l0 x54_3).f4.f1) ((rd_T26 l0 x54_3).f4.f2) ((rd_T26 l0 x54_3).f4.f3) ((rd_T26 l0 x54_3).f5) a1 a2 t171 _ A31.out).mono ?_
                          rintro e w35 ⟨rfl, hb⟩
                          refine ⟨_, rfl, ?_⟩
                          have n0_ := Aside0.mk (below_step (by repeat (first | (with_reducible first | exact HB.out | apply below_alloc | apply pw_below_drewN | apply below_drew1) | exact HB.out)) hb)
                          clear HB
                          have HB := n0_
                          clear n0_
                          (try clear hb)
                          (try clear hb2)
                          (try clear hk)
                          (try clear hi)
                          refine hK.out _ _ ⟨((HB.out.cell (World.block_lt_of_cell? w _ hw170_0)).trans hw170_0), ((HB.out.cell (World.block_lt_of_cell? w _ hw170_1)).trans hw170_1), ((HB.out.cell (World.block_lt_of_cell? w _ hw170_2)).trans hw170_2), ((HB.out.cell (World.block_lt_of_cell? w _ hw170_3)).trans hw170_3), ((HB.out.cell (World.block_lt_of_cell? w _ hw170_4)).trans hw170_4), ((HB.out.cell (World.block_lt_of_cell? w _ hw170_5)).trans hw170_5), ((HB.out.cell (World.block_lt_of_cell? w _ hw170_6)).trans hw170_6), ((HB.out.cell (World.block_lt_of_cell? w _ hw170_7)).trans hw170_7), ((HB.out.cell (World.block_lt_of_cell? w _ hw170_8)).trans hw170_8), ((HB.out.cell (World.block_lt_of_cell? w _ hw170_9)).trans hw170_9), ((HB.out.cell (World.block_lt_of_cell? w _ hw170_10)).trans hw170_10), ((HB.out.cell (World.block_lt_of_cell? w _ hw170_11)).trans hw170_11), ((HB.out.cell (World.block_lt_of_cell? w _ hw170_12)).trans hw170_12), ((HB.out.cell (World.block_lt_of_cell? w _ hw170_13)).trans hw170_13), ((HB.out.cell (World.block_lt_of_cell? w _ hw170_14)).trans hw170_14), ((HB.out.cell (World.block_lt_of_cell? w _ hw172_0)).trans hw172_0), ((HB.out.cell (World.block_lt_of_cell? w _ hw172_1)).trans hw172_1), ((HB.out.cell (World.block_lt_of_cell? w _ hw172_2)).trans hw172_2), ((HB.out.cell (World.block_lt_of_cell? w _ hw172_3)).trans hw172_3), ((HB.out.cell (World.block_lt_of_cell? w _ hw172_4)).trans hw172_4), ((HB.out.cell (World.block_lt_of_cell? w _ hw172_5)).trans hw172_5), ((HB.out.cell (World.block_lt_of_cell? w _ hw172_6)).trans hw172_6), ((HB.out.cell (World.block_lt_of_cell? w _ hw172_7)).trans hw172_7), ((HB.out.cell (World.block_lt_of_cell? w _ hw172_8)).trans hw172_8), ((HB.out.cell (World.block_lt_of_cell? w _ hw172_9)).trans hw172_9), ((HB.out.cell (World.block_lt_of_cell? w _ hw172_10)).trans hw172_10), ((HB.out.cell (World.block_lt_of_cell? w _ hw172_11)).trans hw172_11), ((HB.out.cell (World.block_lt_of_cell? w _ hw172_12)).trans hw172_12), ((HB.out.cell (World.block_lt_of_cell? w _ hw172_13)).trans hw172_13), ((HB.out.cell (World.block_lt_of_cell? w _ hw172_14)).trans hw172_14)⟩ (fun hHeld => ?_)
                          clear hK K
                          refine norm_ (a' := ?_) ?_ ?_
                          rotate_left
                          · show Act.put _ (some 63) _ = _
                            simp only [Act.put, List.setIfInBounds_toArray, List.set_cons_zero, List.set_cons_succ, i64_w, i32_w]
                            rfl
                          refine one_ (i := 13) (N := some 70) #[true, true, true, true, true, true, true, true, true, true, true, true, true, true, false, false, false, false, false, false, false, false, false, false, false, false, false, false, false, false, false, false, false, false] rfl rfl (one_of HT_.out (by kernel_rfl)) (by decide) (fun K hK => ?_)
                          refine goes_ Try.func16 (by kernel_rfl) rfl #[.agg #[.int .i64 ((rd_T26 l0 x54_3).f0), .int .i64 ((rd_T26 l0 x54_3).f1), .int .i64 ((rd_T26 l0 x54_3).f2.f0), .int .i64 ((rd_T26 l0 x54_3).f2.f1), .int .i64 ((rd_T26 l0 x54_3).f2.f2), .int .i64 ((rd_T26 l0 x54_3).f2.f3), .int .i64 ((rd_T26 l0 x54_3).f3.f0), .int .i64 ((rd_T26 l0 x54_3).f3.f1), .int .i64 ((rd_T26 l0 x54_3).f3.f2), .int .i64 ((rd_T26 l0 x54_3).f3.f3), .int .i64 ((rd_T26 l0 x54_3).f4.f0), .int .i64 ((rd_T26 l0 x54_3).f4.f1), .int .i64 ((rd_T26 l0 x54_3).f4.f2), .int .i64 ((rd_T26 l0 x54_3).f4.f3), .int .i64 ((rd_T26 l0 x54_3).f5)], .int .i64 a1, .int .i64 a2] (by rfl) rfl rfl (by (try simp only [List.map_toArray, List.map_cons, List.map_nil]); first | done | rfl | (simp only [List.length_drop, List.length_take]; rfl)) ?_
                          with_reducible refine (decoupageref26_Shows.calls ((rd_T26 l0 x54_3).f0) ((rd_T26 l0 x54_3).f1) ((rd_T26 l0 x54_3).f2.f0) ((rd_T26 l0 x54_3).f2.f1) ((rd_T26 l0 x54_3).f2.f2) ((rd_T26 l0 x54_3).f2.f3) ((rd_T26 l0 x54_3).f3.f0) ((rd_T26 l0 x54_3).f3.f1) ((rd_T26 l0 x54_3).f3.f2) ((rd_T26 l0 x54_3).f3.f3) ((rd_T26 l0 x54_3).f4.f0) ((rd_T26 l0 x54_3).f4.f1) ((rd_T26 l0 x54_3).f4.f2) ((rd_T26 l0 x54_3).f4.f3) ((rd_T26 l0 x54_3).f5) a1 a2 t173 _ A32.out).mono ?_
                          rintro e w36 ⟨rfl, hb⟩
                          refine ⟨_, rfl, ?_⟩
                          have n0_ := Aside0.mk (below_step (by repeat (first | (with_reducible first | exact HB.out | apply below_alloc | apply pw_below_drewN | apply below_drew1) | exact HB.out)) hb)
                          clear HB
                          have HB := n0_
                          clear n0_
                          (try clear hb)
                          (try clear hb2)
                          (try clear hk)
                          (try clear hi)
                          refine hK.out _ _ ⟨((HB.out.cell (World.block_lt_of_cell? w _ hw170_0)).trans hw170_0), ((HB.out.cell (World.block_lt_of_cell? w _ hw170_1)).trans hw170_1), ((HB.out.cell (World.block_lt_of_cell? w _ hw170_2)).trans hw170_2), ((HB.out.cell (World.block_lt_of_cell? w _ hw170_3)).trans hw170_3), ((HB.out.cell (World.block_lt_of_cell? w _ hw170_4)).trans hw170_4), ((HB.out.cell (World.block_lt_of_cell? w _ hw170_5)).trans hw170_5), ((HB.out.cell (World.block_lt_of_cell? w _ hw170_6)).trans hw170_6), ((HB.out.cell (World.block_lt_of_cell? w _ hw170_7)).trans hw170_7), ((HB.out.cell (World.block_lt_of_cell? w _ hw170_8)).trans hw170_8), ((HB.out.cell (World.block_lt_of_cell? w _ hw170_9)).trans hw170_9), ((HB.out.cell (World.block_lt_of_cell? w _ hw170_10)).trans hw170_10), ((HB.out.cell (World.block_lt_of_cell? w _ hw170_11)).trans hw170_11), ((HB.out.cell (World.block_lt_of_cell? w _ hw170_12)).trans hw170_12), ((HB.out.cell (World.block_lt_of_cell? w _ hw170_13)).trans hw170_13), ((HB.out.cell (World.block_lt_of_cell? w _ hw170_14)).trans hw170_14), ((HB.out.cell (World.block_lt_of_cell? w _ hw172_0)).trans hw172_0), ((HB.out.cell (World.block_lt_of_cell? w _ hw172_1)).trans hw172_1), ((HB.out.cell (World.block_lt_of_cell? w _ hw172_2)).trans hw172_2), ((HB.out.cell (World.block_lt_of_cell? w _ hw172_3)).trans hw172_3), ((HB.out.cell (World.block_lt_of_cell? w _ hw172_4)).trans hw172_4), ((HB.out.cell (World.block_lt_of_cell? w _ hw172_5)).trans hw172_5), ((HB.out.cell (World.block_lt_of_cell? w _ hw172_6)).trans hw172_6), ((HB.out.cell (World.block_lt_of_cell? w _ hw172_7)).trans hw172_7), ((HB.out.cell (World.block_lt_of_cell? w _ hw172_8)).trans hw172_8), ((HB.out.cell (World.block_lt_of_cell? w _ hw172_9)).trans hw172_9), ((HB.out.cell (World.block_lt_of_cell? w _ hw172_10)).trans hw172_10), ((HB.out.cell (World.block_lt_of_cell? w _ hw172_11)).trans hw172_11), ((HB.out.cell (World.block_lt_of_cell? w _ hw172_12)).trans hw172_12), ((HB.out.cell (World.block_lt_of_cell? w _ hw172_13)).trans hw172_13), ((HB.out.cell (World.block_lt_of_cell? w _ hw172_14)).trans hw172_14)⟩ (fun hHeld => ?_)
                          clear hK K
                          refine norm_ (a' := ?_) ?_ ?_
                          rotate_left
                          · show Act.put _ (some 70) _ = _
                            simp only [Act.put, List.setIfInBounds_toArray, List.set_cons_zero, List.set_cons_succ, i64_w, i32_w]
                            rfl
                          refine pure_ (i := 14) (N := some 71) (v := ?_) (a' := ?_) #[true, true, true, true, true, true, true, true, true, true, true, true, true, true, true, false, false, false, false, false, false, false, false, false, false, false, false, false, false, false, false, false, false, false] rfl rfl (any_of HT_.out (by kernel_rfl)) (fun _ _ _ h => h) (Or.inl ⟨by rfl, ?_⟩) ?_ ?_
                          rotate_left
                          · intro w'
                            go_simp
                            with_reducible rfl
                          rotate_left
                          · simp only [Act.put, List.setIfInBounds_toArray, List.set_cons_zero, List.set_cons_succ, i64_w, i32_w]
                            rfl
                          refine pure_ (i := 15) (N := some 72) (v := ?_) (a' := ?_) #[true, true, true, true, true, true, true, true, true, true, true, true, true, true, true, true, false, false, false, false, false, false, false, false, false, false, false, false, false, false, false, false, false, false] rfl rfl (any_of HT_.out (by kernel_rfl)) (fun _ _ _ h => h) (Or.inl ⟨by rfl, ?_⟩) ?_ ?_
                          rotate_left
                          · intro w'
                            go_simp
                            with_reducible rfl
                          rotate_left
                          · simp only [Act.put, List.setIfInBounds_toArray, List.set_cons_zero, List.set_cons_succ, i64_w, i32_w]
                            rfl
                          refine pure_ (i := 16) (N := some 73) (v := undef) (a' := ?_) #[true, true, true, true, true, true, true, true, true, true, true, true, true, true, true, true, true, false, false, false, false, false, false, false, false, false, false, false, false, false, false, false, false, false] rfl rfl (any_of HT_.out (by kernel_rfl)) (fun _ _ _ h => h) (Or.inr ⟨by rfl, rfl⟩) ?_ ?_
                          rotate_left
                          · simp only [Act.put, List.setIfInBounds_toArray, List.set_cons_zero, List.set_cons_succ, i64_w, i32_w]
                            rfl
                          refine pure_ (i := 17) (N := some 74) (v := undef) (a' := ?_) #[true, true, true, true, true, true, true, true, true, true, true, true, true, true, true, true, true, true, false, false, false, false, false, false, false, false, false, false, false, false, false, false, false, false] rfl rfl (any_of HT_.out (by kernel_rfl)) (fun _ _ _ h => h) (Or.inr ⟨by rfl, rfl⟩) ?_ ?_
                          rotate_left
                          · simp only [Act.put, List.setIfInBounds_toArray, List.set_cons_zero, List.set_cons_succ, i64_w, i32_w]
                            rfl
                          refine pure_ (i := 18) (N := some 75) (v := undef) (a' := ?_) #[true, true, true, true, true, true, true, true, true, true, true, true, true, true, true, true, true, true, true, false, false, false, false, false, false, false, false, false, false, false, false, false, false, false] rfl rfl (any_of HT_.out (by kernel_rfl)) (fun _ _ _ h => h) (Or.inr ⟨by rfl, rfl⟩) ?_ ?_
                          rotate_left
                          · simp only [Act.put, List.setIfInBounds_toArray, List.set_cons_zero, List.set_cons_succ, i64_w, i32_w]
                            rfl
                          refine pure_ (i := 19) (N := some 76) (v := undef) (a' := ?_) #[true, true, true, true, true, true, true, true, true, true, true, true, true, true, true, true, true, true, true, true, false, false, false, false, false, false, false, false, false, false, false, false, false, false] rfl rfl (any_of HT_.out (by kernel_rfl)) (fun _ _ _ h => h) (Or.inr ⟨by rfl, rfl⟩) ?_ ?_
                          rotate_left
                          · simp only [Act.put, List.setIfInBounds_toArray, List.set_cons_zero, List.set_cons_succ, i64_w, i32_w]
                            rfl
                          refine pure_ (i := 20) (N := some 77) (v := undef) (a' := ?_) #[true, true, true, true, true, true, true, true, true, true, true, true, true, true, true, true, true, true, true, true, true, false, false, false, false, false, false, false, false, false, false, false, false, false] rfl rfl (any_of HT_.out (by kernel_rfl)) (fun _ _ _ h => h) (Or.inr ⟨by rfl, rfl⟩) ?_ ?_
                          rotate_left
                          · simp only [Act.put, List.setIfInBounds_toArray, List.set_cons_zero, List.set_cons_succ, i64_w, i32_w]
                            rfl
                          refine pure_ (i := 21) (N := some 78) (v := undef) (a' := ?_) #[true, true, true, true, true, true, true, true, true, true, true, true, true, true, true, true, true, true, true, true, true, true, false, false, false, false, false, false, false, false, false, false, false, false] rfl rfl (any_of HT_.out (by kernel_rfl)) (fun _ _ _ h => h) (Or.inr ⟨by rfl, rfl⟩) ?_ ?_
                          rotate_left
                          · simp only [Act.put, List.setIfInBounds_toArray, List.set_cons_zero, List.set_cons_succ, i64_w, i32_w]
                            rfl
                          refine pure_ (i := 22) (N := some 79) (v := undef) (a' := ?_) #[true, true, true, true, true, true, true, true, true, true, true, true, true, true, true, true, true, true, true, true, true, true, true, false, false, false, false, false, false, false, false, false, false, false] rfl rfl (any_of HT_.out (by kernel_rfl)) (fun _ _ _ h => h) (Or.inr ⟨by rfl, rfl⟩) ?_ ?_
                          rotate_left
                          · simp only [Act.put, List.setIfInBounds_toArray, List.set_cons_zero, List.set_cons_succ, i64_w, i32_w]
                            rfl
                          refine pure_ (i := 23) (N := some 80) (v := undef) (a' := ?_) #[true, true, true, true, true, true, true, true, true, true, true, true, true, true, true, true, true, true, true, true, true, true, true, true, false, false, false, false, false, false, false, false, false, false] rfl rfl (any_of HT_.out (by kernel_rfl)) (fun _ _ _ h => h) (Or.inr ⟨by rfl, rfl⟩) ?_ ?_
                          rotate_left
                          · simp only [Act.put, List.setIfInBounds_toArray, List.set_cons_zero, List.set_cons_succ, i64_w, i32_w]
                            rfl
                          refine pure_ (i := 24) (N := some 81) (v := undef) (a' := ?_) #[true, true, true, true, true, true, true, true, true, true, true, true, true, true, true, true, true, true, true, true, true, true, true, true, true, false, false, false, false, false, false, false, false, false] rfl rfl (any_of HT_.out (by kernel_rfl)) (fun _ _ _ h => h) (Or.inr ⟨by rfl, rfl⟩) ?_ ?_
                          rotate_left
                          · simp only [Act.put, List.setIfInBounds_toArray, List.set_cons_zero, List.set_cons_succ, i64_w, i32_w]
                            rfl
                          refine pure_ (i := 25) (N := some 82) (v := undef) (a' := ?_) #[true, true, true, true, true, true, true, true, true, true, true, true, true, true, true, true, true, true, true, true, true, true, true, true, true, true, false, false, false, false, false, false, false, false] rfl rfl (any_of HT_.out (by kernel_rfl)) (fun _ _ _ h => h) (Or.inr ⟨by rfl, rfl⟩) ?_ ?_
                          rotate_left
                          · simp only [Act.put, List.setIfInBounds_toArray, List.set_cons_zero, List.set_cons_succ, i64_w, i32_w]
                            rfl
                          refine pure_ (i := 26) (N := some 83) (v := undef) (a' := ?_) #[true, true, true, true, true, true, true, true, true, true, true, true, true, true, true, true, true, true, true, true, true, true, true, true, true, true, true, false, false, false, false, false, false, false] rfl rfl (any_of HT_.out (by kernel_rfl)) (fun _ _ _ h => h) (Or.inr ⟨by rfl, rfl⟩) ?_ ?_
                          rotate_left
                          · simp only [Act.put, List.setIfInBounds_toArray, List.set_cons_zero, List.set_cons_succ, i64_w, i32_w]
                            rfl
                          refine pure_ (i := 27) (N := some 84) (v := undef) (a' := ?_) #[true, true, true, true, true, true, true, true, true, true, true, true, true, true, true, true, true, true, true, true, true, true, true, true, true, true, true, true, false, false, false, false, false, false] rfl rfl (any_of HT_.out (by kernel_rfl)) (fun _ _ _ h => h) (Or.inr ⟨by rfl, rfl⟩) ?_ ?_
                          rotate_left
                          · simp only [Act.put, List.setIfInBounds_toArray, List.set_cons_zero, List.set_cons_succ, i64_w, i32_w]
                            rfl
                          refine pure_ (i := 28) (N := some 85) (v := undef) (a' := ?_) #[true, true, true, true, true, true, true, true, true, true, true, true, true, true, true, true, true, true, true, true, true, true, true, true, true, true, true, true, true, false, false, false, false, false] rfl rfl (any_of HT_.out (by kernel_rfl)) (fun _ _ _ h => h) (Or.inr ⟨by rfl, rfl⟩) ?_ ?_
                          rotate_left
                          · simp only [Act.put, List.setIfInBounds_toArray, List.set_cons_zero, List.set_cons_succ, i64_w, i32_w]
                            rfl
                          refine pure_ (i := 29) (N := some 86) (v := undef) (a' := ?_) #[true, true, true, true, true, true, true, true, true, true, true, true, true, true, true, true, true, true, true, true, true, true, true, true, true, true, true, true, true, true, false, false, false, false] rfl rfl (any_of HT_.out (by kernel_rfl)) (fun _ _ _ h => h) (Or.inr ⟨by rfl, rfl⟩) ?_ ?_
                          rotate_left
                          · simp only [Act.put, List.setIfInBounds_toArray, List.set_cons_zero, List.set_cons_succ, i64_w, i32_w]
                            rfl
                          refine pure_ (i := 30) (N := some 87) (v := undef) (a' := ?_) #[true, true, true, true, true, true, true, true, true, true, true, true, true, true, true, true, true, true, true, true, true, true, true, true, true, true, true, true, true, true, true, false, false, false] rfl rfl (any_of HT_.out (by kernel_rfl)) (fun _ _ _ h => h) (Or.inr ⟨by rfl, rfl⟩) ?_ ?_
                          rotate_left
                          · simp only [Act.put, List.setIfInBounds_toArray, List.set_cons_zero, List.set_cons_succ, i64_w, i32_w]
                            rfl
                          refine pure_ (i := 31) (N := some 88) (v := undef) (a' := ?_) #[true, true, true, true, true, true, true, true, true, true, true, true, true, true, true, true, true, true, true, true, true, true, true, true, true, true, true, true, true, true, true, true, false, false] rfl rfl (any_of HT_.out (by kernel_rfl)) (fun _ _ _ h => h) (Or.inr ⟨by rfl, rfl⟩) ?_ ?_
                          rotate_left
                          · simp only [Act.put, List.setIfInBounds_toArray, List.set_cons_zero, List.set_cons_succ, i64_w, i32_w]
                            rfl
                          refine pure_ (i := 32) (N := some 89) (v := undef) (a' := ?_) #[true, true, true, true, true, true, true, true, true, true, true, true, true, true, true, true, true, true, true, true, true, true, true, true, true, true, true, true, true, true, true, true, true, false] rfl rfl (any_of HT_.out (by kernel_rfl)) (fun _ _ _ h => h) (Or.inr ⟨by rfl, rfl⟩) ?_ ?_
                          rotate_left
                          · simp only [Act.put, List.setIfInBounds_toArray, List.set_cons_zero, List.set_cons_succ, i64_w, i32_w]
                            rfl
                          refine pure_ (i := 33) (N := some 90) (v := ?_) (a' := ?_) #[true, true, true, true, true, true, true, true, true, true, true, true, true, true, true, true, true, true, true, true, true, true, true, true, true, true, true, true, true, true, true, true, true, true] rfl rfl (any_of HT_.out (by kernel_rfl)) (fun _ _ _ h => h) (Or.inl ⟨by rfl, ?_⟩) ?_ ?_
                          rotate_left
                          · intro w'
                            go_simp
                            with_reducible rfl
                          rotate_left
                          · simp only [Act.put, List.setIfInBounds_toArray, List.set_cons_zero, List.set_cons_succ, i64_w, i32_w]
                            rfl
                          refine done_ (done_of HT_.out (by kernel_rfl)) ?_
                          try go_wp2
                          go_ret
                          exact ⟨by first | rfl | (simp [errW_none, errW_some] <;> rfl) | (simp [*, errW_none, errW_some] <;> rfl), by repeat (first | (with_reducible first | exact HB.out | apply below_alloc | apply pw_below_drewN | apply below_drew1) | exact HB.out)⟩
                        · rw [if_neg c33] at H
                          have c33b0 : (t171 != t173) = false := by simpa using c33
                          (try (have c33b1 : decide (t171 = t173) = true := by simpa using c33))
                          (try (have c33b2 : (t171 == t173) = true := by simpa using c33))
                          clear c33
                          replace H := Option.bind_eq_some_iff.mp H
                          obtain ⟨⟨t175, t176, t177, t178⟩, A370, H⟩ := H
                          replace H : ((decoupageref02_Meet.f k3 ((rd_T26 l0 x54_3).f2.f0) ((rd_T26 l0 x54_3).f2.f1) ((rd_T26 l0 x54_3).f2.f2) ((rd_T26 l0 x54_3).f2.f3) ((rd_T26 l0 x54_3).f4.f0) ((rd_T26 l0 x54_3).f4.f1) ((rd_T26 l0 x54_3).f4.f2) ((rd_T26 l0 x54_3).f4.f3)).bind fun bt181 => (if (!(t175 == bt181.1) || (!(t176 == bt181.2.1) || (!(t177 == bt181.2.2.1) || (!(t178 == bt181.2.2.2))))) = true then (some false) else (decoupagelaw26_OwnerTells.l0 k3 l0 a1 a2 (l0.length : Int) (wrap64 (x54_3 + 1))))) = some r := H
                          have A37 := Aside0.mk A370
                          clear A370
                          replace H := Option.bind_eq_some_iff.mp H
                          obtain ⟨⟨t181, t182, t183, t184⟩, A380, H⟩ := H
                          replace H : (if (!(t175 == t181) || (!(t176 == t182) || (!(t177 == t183) || (!(t178 == t184))))) = true then (some false) else (decoupagelaw26_OwnerTells.l0 k3 l0 a1 a2 (l0.length : Int) (wrap64 (x54_3 + 1)))) = some r := H
                          have A38 := Aside0.mk A380
                          clear A380
                          have HM := Aside0.mk H
                          clear H
                          try go_wp2
                          have n0_ := Aside0.mk (below_drew1 HB.out)
                          clear HB
                          have HB := n0_
                          clear n0_
                          have p170 : 0 ≤ (x54_3 : Int) := of_decide_eq_true (by first | (with_reducible assumption) | assumption)
                          have q170 : x54_3 < (l0.length : Int) := of_decide_eq_true (by first | (with_reducible assumption) | assumption)
                          obtain ⟨ad170, e170, hx170_0, hx170_1, hx170_2, hx170_3, hx170_4, hx170_5, hx170_6, hx170_7, hx170_8, hx170_9, hx170_10, hx170_11, hx170_12, hx170_13, hx170_14⟩ := at_T26 HR0.out x54_3 p170 q170
                          have hw170_14 := hx170_14
                          have hw170_13 := hx170_13
                          have hw170_12 := hx170_12
                          have hw170_11 := hx170_11
                          have hw170_10 := hx170_10
                          have hw170_9 := hx170_9
                          have hw170_8 := hx170_8
                          have hw170_7 := hx170_7
                          have hw170_6 := hx170_6
                          have hw170_5 := hx170_5
                          have hw170_4 := hx170_4
                          have hw170_3 := hx170_3
                          have hw170_2 := hx170_2
                          have hw170_1 := hx170_1
                          have hw170_0 := hx170_0
                          cases e170
                          replace hx170_0 := (HB.out.cell (World.block_lt_of_cell? w _ hx170_0)).trans hx170_0
                          replace hx170_1 := (HB.out.cell (World.block_lt_of_cell? w _ hx170_1)).trans hx170_1
                          replace hx170_2 := (HB.out.cell (World.block_lt_of_cell? w _ hx170_2)).trans hx170_2
                          replace hx170_3 := (HB.out.cell (World.block_lt_of_cell? w _ hx170_3)).trans hx170_3
                          replace hx170_4 := (HB.out.cell (World.block_lt_of_cell? w _ hx170_4)).trans hx170_4
                          replace hx170_5 := (HB.out.cell (World.block_lt_of_cell? w _ hx170_5)).trans hx170_5
                          replace hx170_6 := (HB.out.cell (World.block_lt_of_cell? w _ hx170_6)).trans hx170_6
                          replace hx170_7 := (HB.out.cell (World.block_lt_of_cell? w _ hx170_7)).trans hx170_7
                          replace hx170_8 := (HB.out.cell (World.block_lt_of_cell? w _ hx170_8)).trans hx170_8
                          replace hx170_9 := (HB.out.cell (World.block_lt_of_cell? w _ hx170_9)).trans hx170_9
                          replace hx170_10 := (HB.out.cell (World.block_lt_of_cell? w _ hx170_10)).trans hx170_10
                          replace hx170_11 := (HB.out.cell (World.block_lt_of_cell? w _ hx170_11)).trans hx170_11
                          replace hx170_12 := (HB.out.cell (World.block_lt_of_cell? w _ hx170_12)).trans hx170_12
                          replace hx170_13 := (HB.out.cell (World.block_lt_of_cell? w _ hx170_13)).trans hx170_13
                          replace hx170_14 := (HB.out.cell (World.block_lt_of_cell? w _ hx170_14)).trans hx170_14
                          replace p170 := eq_true p170
                          replace q170 := eq_true q170
                          have p172 : 0 ≤ (x54_3 : Int) := of_decide_eq_true (by first | (with_reducible assumption) | assumption)
                          have q172 : x54_3 < (l0.length : Int) := of_decide_eq_true (by first | (with_reducible assumption) | assumption)
                          obtain ⟨ad172, e172, hx172_0, hx172_1, hx172_2, hx172_3, hx172_4, hx172_5, hx172_6, hx172_7, hx172_8, hx172_9, hx172_10, hx172_11, hx172_12, hx172_13, hx172_14⟩ := at_T26 HR0.out x54_3 p172 q172
                          have hw172_14 := hx172_14
                          have hw172_13 := hx172_13
                          have hw172_12 := hx172_12
                          have hw172_11 := hx172_11
                          have hw172_10 := hx172_10
                          have hw172_9 := hx172_9
                          have hw172_8 := hx172_8
                          have hw172_7 := hx172_7
                          have hw172_6 := hx172_6
                          have hw172_5 := hx172_5
                          have hw172_4 := hx172_4
                          have hw172_3 := hx172_3
                          have hw172_2 := hx172_2
                          have hw172_1 := hx172_1
                          have hw172_0 := hx172_0
                          obtain rfl : ad170 = ad172 := (by injection e172)
                          replace hx172_0 := (HB.out.cell (World.block_lt_of_cell? w _ hx172_0)).trans hx172_0
                          replace hx172_1 := (HB.out.cell (World.block_lt_of_cell? w _ hx172_1)).trans hx172_1
                          replace hx172_2 := (HB.out.cell (World.block_lt_of_cell? w _ hx172_2)).trans hx172_2
                          replace hx172_3 := (HB.out.cell (World.block_lt_of_cell? w _ hx172_3)).trans hx172_3
                          replace hx172_4 := (HB.out.cell (World.block_lt_of_cell? w _ hx172_4)).trans hx172_4
                          replace hx172_5 := (HB.out.cell (World.block_lt_of_cell? w _ hx172_5)).trans hx172_5
                          replace hx172_6 := (HB.out.cell (World.block_lt_of_cell? w _ hx172_6)).trans hx172_6
                          replace hx172_7 := (HB.out.cell (World.block_lt_of_cell? w _ hx172_7)).trans hx172_7
                          replace hx172_8 := (HB.out.cell (World.block_lt_of_cell? w _ hx172_8)).trans hx172_8
                          replace hx172_9 := (HB.out.cell (World.block_lt_of_cell? w _ hx172_9)).trans hx172_9
                          replace hx172_10 := (HB.out.cell (World.block_lt_of_cell? w _ hx172_10)).trans hx172_10
                          replace hx172_11 := (HB.out.cell (World.block_lt_of_cell? w _ hx172_11)).trans hx172_11
                          replace hx172_12 := (HB.out.cell (World.block_lt_of_cell? w _ hx172_12)).trans hx172_12
                          replace hx172_13 := (HB.out.cell (World.block_lt_of_cell? w _ hx172_13)).trans hx172_13
                          replace hx172_14 := (HB.out.cell (World.block_lt_of_cell? w _ hx172_14)).trans hx172_14
                          replace p172 := eq_true p172
                          replace q172 := eq_true q172
                          have p174 : 0 ≤ (x54_3 : Int) := of_decide_eq_true (by first | (with_reducible assumption) | assumption)
                          have q174 : x54_3 < (l0.length : Int) := of_decide_eq_true (by first | (with_reducible assumption) | assumption)
                          obtain ⟨ad174, e174, hx174_0, hx174_1, hx174_2, hx174_3, hx174_4, hx174_5, hx174_6, hx174_7, hx174_8, hx174_9, hx174_10, hx174_11, hx174_12, hx174_13, hx174_14⟩ := at_T26 HR0.out x54_3 p174 q174
                          have hw174_14 := hx174_14
                          have hw174_13 := hx174_13
                          have hw174_12 := hx174_12
                          have hw174_11 := hx174_11
                          have hw174_10 := hx174_10
                          have hw174_9 := hx174_9
                          have hw174_8 := hx174_8
                          have hw174_7 := hx174_7
                          have hw174_6 := hx174_6
                          have hw174_5 := hx174_5
                          have hw174_4 := hx174_4
                          have hw174_3 := hx174_3
                          have hw174_2 := hx174_2
                          have hw174_1 := hx174_1
                          have hw174_0 := hx174_0
                          obtain rfl : ad170 = ad174 := (by injection e174)
                          replace hx174_0 := (HB.out.cell (World.block_lt_of_cell? w _ hx174_0)).trans hx174_0
                          replace hx174_1 := (HB.out.cell (World.block_lt_of_cell? w _ hx174_1)).trans hx174_1
                          replace hx174_2 := (HB.out.cell (World.block_lt_of_cell? w _ hx174_2)).trans hx174_2
                          replace hx174_3 := (HB.out.cell (World.block_lt_of_cell? w _ hx174_3)).trans hx174_3
                          replace hx174_4 := (HB.out.cell (World.block_lt_of_cell? w _ hx174_4)).trans hx174_4
                          replace hx174_5 := (HB.out.cell (World.block_lt_of_cell? w _ hx174_5)).trans hx174_5
                          replace hx174_6 := (HB.out.cell (World.block_lt_of_cell? w _ hx174_6)).trans hx174_6
                          replace hx174_7 := (HB.out.cell (World.block_lt_of_cell? w _ hx174_7)).trans hx174_7
                          replace hx174_8 := (HB.out.cell (World.block_lt_of_cell? w _ hx174_8)).trans hx174_8
                          replace hx174_9 := (HB.out.cell (World.block_lt_of_cell? w _ hx174_9)).trans hx174_9
                          replace hx174_10 := (HB.out.cell (World.block_lt_of_cell? w _ hx174_10)).trans hx174_10
                          replace hx174_11 := (HB.out.cell (World.block_lt_of_cell? w _ hx174_11)).trans hx174_11
                          replace hx174_12 := (HB.out.cell (World.block_lt_of_cell? w _ hx174_12)).trans hx174_12
                          replace hx174_13 := (HB.out.cell (World.block_lt_of_cell? w _ hx174_13)).trans hx174_13
                          replace hx174_14 := (HB.out.cell (World.block_lt_of_cell? w _ hx174_14)).trans hx174_14
                          replace p174 := eq_true p174
                          replace q174 := eq_true q174
                          have p179 : 0 ≤ (x54_3 : Int) := of_decide_eq_true (by first | (with_reducible assumption) | assumption)
                          have q179 : x54_3 < (l0.length : Int) := of_decide_eq_true (by first | (with_reducible assumption) | assumption)
                          obtain ⟨ad179, e179, hx179_0, hx179_1, hx179_2, hx179_3, hx179_4, hx179_5, hx179_6, hx179_7, hx179_8, hx179_9, hx179_10, hx179_11, hx179_12, hx179_13, hx179_14⟩ := at_T26 HR0.out x54_3 p179 q179
                          have hw179_14 := hx179_14
                          have hw179_13 := hx179_13
                          have hw179_12 := hx179_12
                          have hw179_11 := hx179_11
                          have hw179_10 := hx179_10
                          have hw179_9 := hx179_9
                          have hw179_8 := hx179_8
                          have hw179_7 := hx179_7
                          have hw179_6 := hx179_6
                          have hw179_5 := hx179_5
                          have hw179_4 := hx179_4
                          have hw179_3 := hx179_3
                          have hw179_2 := hx179_2
                          have hw179_1 := hx179_1
                          have hw179_0 := hx179_0
                          obtain rfl : ad170 = ad179 := (by injection e179)
                          replace hx179_0 := (HB.out.cell (World.block_lt_of_cell? w _ hx179_0)).trans hx179_0
                          replace hx179_1 := (HB.out.cell (World.block_lt_of_cell? w _ hx179_1)).trans hx179_1
                          replace hx179_2 := (HB.out.cell (World.block_lt_of_cell? w _ hx179_2)).trans hx179_2
                          replace hx179_3 := (HB.out.cell (World.block_lt_of_cell? w _ hx179_3)).trans hx179_3
                          replace hx179_4 := (HB.out.cell (World.block_lt_of_cell? w _ hx179_4)).trans hx179_4
                          replace hx179_5 := (HB.out.cell (World.block_lt_of_cell? w _ hx179_5)).trans hx179_5
                          replace hx179_6 := (HB.out.cell (World.block_lt_of_cell? w _ hx179_6)).trans hx179_6
                          replace hx179_7 := (HB.out.cell (World.block_lt_of_cell? w _ hx179_7)).trans hx179_7
                          replace hx179_8 := (HB.out.cell (World.block_lt_of_cell? w _ hx179_8)).trans hx179_8
                          replace hx179_9 := (HB.out.cell (World.block_lt_of_cell? w _ hx179_9)).trans hx179_9
                          replace hx179_10 := (HB.out.cell (World.block_lt_of_cell? w _ hx179_10)).trans hx179_10
                          replace hx179_11 := (HB.out.cell (World.block_lt_of_cell? w _ hx179_11)).trans hx179_11
                          replace hx179_12 := (HB.out.cell (World.block_lt_of_cell? w _ hx179_12)).trans hx179_12
                          replace hx179_13 := (HB.out.cell (World.block_lt_of_cell? w _ hx179_13)).trans hx179_13
                          replace hx179_14 := (HB.out.cell (World.block_lt_of_cell? w _ hx179_14)).trans hx179_14
                          replace p179 := eq_true p179
                          replace q179 := eq_true q179
                          have p180 : 0 ≤ (x54_3 : Int) := of_decide_eq_true (by first | (with_reducible assumption) | assumption)
                          have q180 : x54_3 < (l0.length : Int) := of_decide_eq_true (by first | (with_reducible assumption) | assumption)
                          obtain ⟨ad180, e180, hx180_0, hx180_1, hx180_2, hx180_3, hx180_4, hx180_5, hx180_6, hx180_7, hx180_8, hx180_9, hx180_10, hx180_11, hx180_12, hx180_13, hx180_14⟩ := at_T26 HR0.out x54_3 p180 q180
                          have hw180_14 := hx180_14
                          have hw180_13 := hx180_13
                          have hw180_12 := hx180_12
                          have hw180_11 := hx180_11
                          have hw180_10 := hx180_10
                          have hw180_9 := hx180_9
                          have hw180_8 := hx180_8
                          have hw180_7 := hx180_7
                          have hw180_6 := hx180_6
                          have hw180_5 := hx180_5
                          have hw180_4 := hx180_4
                          have hw180_3 := hx180_3
                          have hw180_2 := hx180_2
                          have hw180_1 := hx180_1
                          have hw180_0 := hx180_0
                          obtain rfl : ad170 = ad180 := (by injection e180)
                          replace hx180_0 := (HB.out.cell (World.block_lt_of_cell? w _ hx180_0)).trans hx180_0
                          replace hx180_1 := (HB.out.cell (World.block_lt_of_cell? w _ hx180_1)).trans hx180_1
                          replace hx180_2 := (HB.out.cell (World.block_lt_of_cell? w _ hx180_2)).trans hx180_2
                          replace hx180_3 := (HB.out.cell (World.block_lt_of_cell? w _ hx180_3)).trans hx180_3
                          replace hx180_4 := (HB.out.cell (World.block_lt_of_cell? w _ hx180_4)).trans hx180_4
                          replace hx180_5 := (HB.out.cell (World.block_lt_of_cell? w _ hx180_5)).trans hx180_5
                          replace hx180_6 := (HB.out.cell (World.block_lt_of_cell? w _ hx180_6)).trans hx180_6
                          replace hx180_7 := (HB.out.cell (World.block_lt_of_cell? w _ hx180_7)).trans hx180_7
                          replace hx180_8 := (HB.out.cell (World.block_lt_of_cell? w _ hx180_8)).trans hx180_8
                          replace hx180_9 := (HB.out.cell (World.block_lt_of_cell? w _ hx180_9)).trans hx180_9
                          replace hx180_10 := (HB.out.cell (World.block_lt_of_cell? w _ hx180_10)).trans hx180_10
                          replace hx180_11 := (HB.out.cell (World.block_lt_of_cell? w _ hx180_11)).trans hx180_11
                          replace hx180_12 := (HB.out.cell (World.block_lt_of_cell? w _ hx180_12)).trans hx180_12
                          replace hx180_13 := (HB.out.cell (World.block_lt_of_cell? w _ hx180_13)).trans hx180_13
                          replace hx180_14 := (HB.out.cell (World.block_lt_of_cell? w _ hx180_14)).trans hx180_14
                          replace p180 := eq_true p180
                          replace q180 := eq_true q180
                          refine start_ (n := 34) (S := fun w' => w'.cell? (ad170.add ((x54_3).toNat * 15)) = some (.int .i64 ((rd_T26 l0 x54_3).f0)) ∧ w'.cell? ⟨(ad170.add ((x54_3).toNat * 15)).block, (ad170.add ((x54_3).toNat * 15)).off + 1, none⟩ = some (.int .i64 ((rd_T26 l0 x54_3).f1)) ∧ w'.cell? ⟨(ad170.add ((x54_3).toNat * 15)).block, (ad170.add ((x54_3).toNat * 15)).off + 2, none⟩ = some (.int .i64 ((rd_T26 l0 x54_3).f2.f0)) ∧ w'.cell? ⟨(ad170.add ((x54_3).toNat * 15)).block, (ad170.add ((x54_3).toNat * 15)).off + 3, none⟩ = some (.int .i64 ((rd_T26 l0 x54_3).f2.f1)) ∧ w'.cell? ⟨(ad170.add ((x54_3).toNat * 15)).block, (ad170.add ((x54_3).toNat * 15)).off + 4, none⟩ = some (.int .i64 ((rd_T26 l0 x54_3).f2.f2)) ∧ w'.cell? ⟨(ad170.add ((x54_3).toNat * 15)).block, (ad170.add ((x54_3).toNat * 15)).off + 5, none⟩ = some (.int .i64 ((rd_T26 l0 x54_3).f2.f3)) ∧ w'.cell? ⟨(ad170.add ((x54_3).toNat * 15)).block, (ad170.add ((x54_3).toNat * 15)).off + 6, none⟩ = some (.int .i64 ((rd_T26 l0 x54_3).f3.f0)) ∧ w'.cell? ⟨(ad170.add ((x54_3).toNat * 15)).block, (ad170.add ((x54_3).toNat * 15)).off + 7, none⟩ = some (.int .i64 ((rd_T26 l0 x54_3).f3.f1)) ∧ w'.cell? ⟨(ad170.add ((x54_3).toNat * 15)).block, (ad170.add ((x54_3).toNat * 15)).off + 8, none⟩ = some (.int .i64 ((rd_T26 l0 x54_3).f3.f2)) ∧ w'.cell? ⟨(ad170.add ((x54_3).toNat * 15)).block, (ad170.add ((x54_3).toNat * 15)).off + 9, none⟩ = some (.int .i64 ((rd_T26 l0 x54_3).f3.f3)) ∧ w'.cell? ⟨(ad170.add ((x54_3).toNat * 15)).block, (ad170.add ((x54_3).toNat * 15)).off + 10, none⟩ = some (.int .i64 ((rd_T26 l0 x54_3).f4.f0)) ∧ w'.cell? ⟨(ad170.add ((x54_3).toNat * 15)).block, (ad170.add ((x54_3).toNat * 15)).off + 11, none⟩ = some (.int .i64 ((rd_T26 l0 x54_3).f4.f1)) ∧ w'.cell? ⟨(ad170.add ((x54_3).toNat * 15)).block, (ad170.add ((x54_3).toNat * 15)).off + 12, none⟩ = some (.int .i64 ((rd_T26 l0 x54_3).f4.f2)) ∧ w'.cell? ⟨(ad170.add ((x54_3).toNat * 15)).block, (ad170.add ((x54_3).toNat * 15)).off + 13, none⟩ = some (.int .i64 ((rd_T26 l0 x54_3).f4.f3)) ∧ w'.cell? ⟨(ad170.add ((x54_3).toNat * 15)).block, (ad170.add ((x54_3).toNat * 15)).off + 14, none⟩ = some (.int .i64 ((rd_T26 l0 x54_3).f5)) ∧ w'.cell? (ad170.add ((x54_3).toNat * 15)) = some (.int .i64 ((rd_T26 l0 x54_3).f0)) ∧ w'.cell? ⟨(ad170.add ((x54_3).toNat * 15)).block, (ad170.add ((x54_3).toNat * 15)).off + 1, none⟩ = some (.int .i64 ((rd_T26 l0 x54_3).f1)) ∧ w'.cell? ⟨(ad170.add ((x54_3).toNat * 15)).block, (ad170.add ((x54_3).toNat * 15)).off + 2, none⟩ = some (.int .i64 ((rd_T26 l0 x54_3).f2.f0)) ∧ w'.cell? ⟨(ad170.add ((x54_3).toNat * 15)).block, (ad170.add ((x54_3).toNat * 15)).off + 3, none⟩ = some (.int .i64 ((rd_T26 l0 x54_3).f2.f1)) ∧ w'.cell? ⟨(ad170.add ((x54_3).toNat * 15)).block, (ad170.add ((x54_3).toNat * 15)).off + 4, none⟩ = some (.int .i64 ((rd_T26 l0 x54_3).f2.f2)) ∧ w'.cell? ⟨(ad170.add ((x54_3).toNat * 15)).block, (ad170.add ((x54_3).toNat * 15)).off + 5, none⟩ = some (.int .i64 ((rd_T26 l0 x54_3).f2.f3)) ∧ w'.cell? ⟨(ad170.add ((x54_3).toNat * 15)).block, (ad170.add ((x54_3).toNat * 15)).off + 6, none⟩ = some (.int .i64 ((rd_T26 l0 x54_3).f3.f0)) ∧ w'.cell? ⟨(ad170.add ((x54_3).toNat * 15)).block, (ad170.add ((x54_3).toNat * 15)).off + 7, none⟩ = some (.int .i64 ((rd_T26 l0 x54_3).f3.f1)) ∧ w'.cell? ⟨(ad170.add ((x54_3).toNat * 15)).block, (ad170.add ((x54_3).toNat * 15)).off + 8, none⟩ = some (.int .i64 ((rd_T26 l0 x54_3).f3.f2)) ∧ w'.cell? ⟨(ad170.add ((x54_3).toNat * 15)).block, (ad170.add ((x54_3).toNat * 15)).off + 9, none⟩ = some (.int .i64 ((rd_T26 l0 x54_3).f3.f3)) ∧ w'.cell? ⟨(ad170.add ((x54_3).toNat * 15)).block, (ad170.add ((x54_3).toNat * 15)).off + 10, none⟩ = some (.int .i64 ((rd_T26 l0 x54_3).f4.f0)) ∧ w'.cell? ⟨(ad170.add ((x54_3).toNat * 15)).block, (ad170.add ((x54_3).toNat * 15)).off + 11, none⟩ = some (.int .i64 ((rd_T26 l0 x54_3).f4.f1)) ∧ w'.cell? ⟨(ad170.add ((x54_3).toNat * 15)).block, (ad170.add ((x54_3).toNat * 15)).off + 12, none⟩ = some (.int .i64 ((rd_T26 l0 x54_3).f4.f2)) ∧ w'.cell? ⟨(ad170.add ((x54_3).toNat * 15)).block, (ad170.add ((x54_3).toNat * 15)).off + 13, none⟩ = some (.int .i64 ((rd_T26 l0 x54_3).f4.f3)) ∧ w'.cell? ⟨(ad170.add ((x54_3).toNat * 15)).block, (ad170.add ((x54_3).toNat * 15)).off + 14, none⟩ = some (.int .i64 ((rd_T26 l0 x54_3).f5)) ∧ w'.cell? (ad170.add ((x54_3).toNat * 15)) = some (.int .i64 ((rd_T26 l0 x54_3).f0)) ∧ w'.cell? ⟨(ad170.add ((x54_3).toNat * 15)).block, (ad170.add ((x54_3).toNat * 15)).off + 1, none⟩ = some (.int .i64 ((rd_T26 l0 x54_3).f1)) ∧ w'.cell? ⟨(ad170.add ((x54_3).toNat * 15)).block, (ad170.add ((x54_3).toNat * 15)).off + 2, none⟩ = some (.int .i64 ((rd_T26 l0 x54_3).f2.f0)) ∧ w'.cell? ⟨(ad170.add ((x54_3).toNat * 15)).block, (ad170.add ((x54_3).toNat * 15)).off + 3, none⟩ = some (.int .i64 ((rd_T26 l0 x54_3).f2.f1)) ∧ w'.cell? ⟨(ad170.add ((x54_3).toNat * 15)).block, (ad170.add ((x54_3).toNat * 15)).off + 4, none⟩ = some (.int .i64 ((rd_T26 l0 x54_3).f2.f2)) ∧ w'.cell? ⟨(ad170.add ((x54_3).toNat * 15)).block, (ad170.add ((x54_3).toNat * 15)).off + 5, none⟩ = some (.int .i64 ((rd_T26 l0 x54_3).f2.f3)) ∧ w'.cell? ⟨(ad170.add ((x54_3).toNat * 15)).block, (ad170.add ((x54_3).toNat * 15)).off + 6, none⟩ = some (.int .i64 ((rd_T26 l0 x54_3).f3.f0)) ∧ w'.cell? ⟨(ad170.add ((x54_3).toNat * 15)).block, (ad170.add ((x54_3).toNat * 15)).off + 7, none⟩ = some (.int .i64 ((rd_T26 l0 x54_3).f3.f1)) ∧ w'.cell? ⟨(ad170.add ((x54_3).toNat * 15)).block, (ad170.add ((x54_3).toNat * 15)).off + 8, none⟩ = some (.int .i64 ((rd_T26 l0 x54_3).f3.f2)) ∧ w'.cell? ⟨(ad170.add ((x54_3).toNat * 15)).block, (ad170.add ((x54_3).toNat * 15)).off + 9, none⟩ = some (.int .i64 ((rd_T26 l0 x54_3).f3.f3)) ∧ w'.cell? ⟨(ad170.add ((x54_3).toNat * 15)).block, (ad170.add ((x54_3).toNat * 15)).off + 10, none⟩ = some (.int .i64 ((rd_T26 l0 x54_3).f4.f0)) ∧ w'.cell? ⟨(ad170.add ((x54_3).toNat * 15)).block, (ad170.add ((x54_3).toNat * 15)).off + 11, none⟩ = some (.int .i64 ((rd_T26 l0 x54_3).f4.f1)) ∧ w'.cell? ⟨(ad170.add ((x54_3).toNat * 15)).block, (ad170.add ((x54_3).toNat * 15)).off + 12, none⟩ = some (.int .i64 ((rd_T26 l0 x54_3).f4.f2)) ∧ w'.cell? ⟨(ad170.add ((x54_3).toNat * 15)).block, (ad170.add ((x54_3).toNat * 15)).off + 13, none⟩ = some (.int .i64 ((rd_T26 l0 x54_3).f4.f3)) ∧ w'.cell? ⟨(ad170.add ((x54_3).toNat * 15)).block, (ad170.add ((x54_3).toNat * 15)).off + 14, none⟩ = some (.int .i64 ((rd_T26 l0 x54_3).f5)) ∧ w'.cell? (ad170.add ((x54_3).toNat * 15)) = some (.int .i64 ((rd_T26 l0 x54_3).f0)) ∧ w'.cell? ⟨(ad170.add ((x54_3).toNat * 15)).block, (ad170.add ((x54_3).toNat * 15)).off + 1, none⟩ = some (.int .i64 ((rd_T26 l0 x54_3).f1)) ∧ w'.cell? ⟨(ad170.add ((x54_3).toNat * 15)).block, (ad170.add ((x54_3).toNat * 15)).off + 2, none⟩ = some (.int .i64 ((rd_T26 l0 x54_3).f2.f0)) ∧ w'.cell? ⟨(ad170.add ((x54_3).toNat * 15)).block, (ad170.add ((x54_3).toNat * 15)).off + 3, none⟩ = some (.int .i64 ((rd_T26 l0 x54_3).f2.f1)) ∧ w'.cell? ⟨(ad170.add ((x54_3).toNat * 15)).block, (ad170.add ((x54_3).toNat * 15)).off + 4, none⟩ = some (.int .i64 ((rd_T26 l0 x54_3).f2.f2)) ∧ w'.cell? ⟨(ad170.add ((x54_3).toNat * 15)).block, (ad170.add ((x54_3).toNat * 15)).off + 5, none⟩ = some (.int .i64 ((rd_T26 l0 x54_3).f2.f3)) ∧ w'.cell? ⟨(ad170.add ((x54_3).toNat * 15)).block, (ad170.add ((x54_3).toNat * 15)).off + 6, none⟩ = some (.int .i64 ((rd_T26 l0 x54_3).f3.f0)) ∧ w'.cell? ⟨(ad170.add ((x54_3).toNat * 15)).block, (ad170.add ((x54_3).toNat * 15)).off + 7, none⟩ = some (.int .i64 ((rd_T26 l0 x54_3).f3.f1)) ∧ w'.cell? ⟨(ad170.add ((x54_3).toNat * 15)).block, (ad170.add ((x54_3).toNat * 15)).off + 8, none⟩ = some (.int .i64 ((rd_T26 l0 x54_3).f3.f2)) ∧ w'.cell? ⟨(ad170.add ((x54_3).toNat * 15)).block, (ad170.add ((x54_3).toNat * 15)).off + 9, none⟩ = some (.int .i64 ((rd_T26 l0 x54_3).f3.f3)) ∧ w'.cell? ⟨(ad170.add ((x54_3).toNat * 15)).block, (ad170.add ((x54_3).toNat * 15)).off + 10, none⟩ = some (.int .i64 ((rd_T26 l0 x54_3).f4.f0)) ∧ w'.cell? ⟨(ad170.add ((x54_3).toNat * 15)).block, (ad170.add ((x54_3).toNat * 15)).off + 11, none⟩ = some (.int .i64 ((rd_T26 l0 x54_3).f4.f1)) ∧ w'.cell? ⟨(ad170.add ((x54_3).toNat * 15)).block, (ad170.add ((x54_3).toNat * 15)).off + 12, none⟩ = some (.int .i64 ((rd_T26 l0 x54_3).f4.f2)) ∧ w'.cell? ⟨(ad170.add ((x54_3).toNat * 15)).block, (ad170.add ((x54_3).toNat * 15)).off + 13, none⟩ = some (.int .i64 ((rd_T26 l0 x54_3).f4.f3)) ∧ w'.cell? ⟨(ad170.add ((x54_3).toNat * 15)).block, (ad170.add ((x54_3).toNat * 15)).off + 14, none⟩ = some (.int .i64 ((rd_T26 l0 x54_3).f5)) ∧ w'.cell? (ad170.add ((x54_3).toNat * 15)) = some (.int .i64 ((rd_T26 l0 x54_3).f0)) ∧ w'.cell? ⟨(ad170.add ((x54_3).toNat * 15)).block, (ad170.add ((x54_3).toNat * 15)).off + 1, none⟩ = some (.int .i64 ((rd_T26 l0 x54_3).f1)) ∧ w'.cell? ⟨(ad170.add ((x54_3).toNat * 15)).block, (ad170.add ((x54_3).toNat * 15)).off + 2, none⟩ = some (.int .i64 ((rd_T26 l0 x54_3).f2.f0)) ∧ w'.cell? ⟨(ad170.add ((x54_3).toNat * 15)).block, (ad170.add ((x54_3).toNat * 15)).off + 3, none⟩ = some (.int .i64 ((rd_T26 l0 x54_3).f2.f1)) ∧ w'.cell? ⟨(ad170.add ((x54_3).toNat * 15)).block, (ad170.add ((x54_3).toNat * 15)).off + 4, none⟩ = some (.int .i64 ((rd_T26 l0 x54_3).f2.f2)) ∧ w'.cell? ⟨(ad170.add ((x54_3).toNat * 15)).block, (ad170.add ((x54_3).toNat * 15)).off + 5, none⟩ = some (.int .i64 ((rd_T26 l0 x54_3).f2.f3)) ∧ w'.cell? ⟨(ad170.add ((x54_3).toNat * 15)).block, (ad170.add ((x54_3).toNat * 15)).off + 6, none⟩ = some (.int .i64 ((rd_T26 l0 x54_3).f3.f0)) ∧ w'.cell? ⟨(ad170.add ((x54_3).toNat * 15)).block, (ad170.add ((x54_3).toNat * 15)).off + 7, none⟩ = some (.int .i64 ((rd_T26 l0 x54_3).f3.f1)) ∧ w'.cell? ⟨(ad170.add ((x54_3).toNat * 15)).block, (ad170.add ((x54_3).toNat * 15)).off + 8, none⟩ = some (.int .i64 ((rd_T26 l0 x54_3).f3.f2)) ∧ w'.cell? ⟨(ad170.add ((x54_3).toNat * 15)).block, (ad170.add ((x54_3).toNat * 15)).off + 9, none⟩ = some (.int .i64 ((rd_T26 l0 x54_3).f3.f3)) ∧ w'.cell? ⟨(ad170.add ((x54_3).toNat * 15)).block, (ad170.add ((x54_3).toNat * 15)).off + 10, none⟩ = some (.int .i64 ((rd_T26 l0 x54_3).f4.f0)) ∧ w'.cell? ⟨(ad170.add ((x54_3).toNat * 15)).block, (ad170.add ((x54_3).toNat * 15)).off + 11, none⟩ = some (.int .i64 ((rd_T26 l0 x54_3).f4.f1)) ∧ w'.cell? ⟨(ad170.add ((x54_3).toNat * 15)).block, (ad170.add ((x54_3).toNat * 15)).off + 12, none⟩ = some (.int .i64 ((rd_T26 l0 x54_3).f4.f2)) ∧ w'.cell? ⟨(ad170.add ((x54_3).toNat * 15)).block, (ad170.add ((x54_3).toNat * 15)).off + 13, none⟩ = some (.int .i64 ((rd_T26 l0 x54_3).f4.f3)) ∧ w'.cell? ⟨(ad170.add ((x54_3).toNat * 15)).block, (ad170.add ((x54_3).toNat * 15)).off + 14, none⟩ = some (.int .i64 ((rd_T26 l0 x54_3).f5))) (ds := []) #[false, false, false, false, false, false, false, false, false, false, false, false, false, false, false, false, false, false, false, false, false, false, false, false, false, false, false, false, false, false, false, false, false, false] (by kernel_rfl) rfl rfl ⟨((HB.out.cell (World.block_lt_of_cell? w _ hw170_0)).trans hw170_0), ((HB.out.cell (World.block_lt_of_cell? w _ hw170_1)).trans hw170_1), ((HB.out.cell (World.block_lt_of_cell? w _ hw170_2)).trans hw170_2), ((HB.out.cell (World.block_lt_of_cell? w _ hw170_3)).trans hw170_3), ((HB.out.cell (World.block_lt_of_cell? w _ hw170_4)).trans hw170_4), ((HB.out.cell (World.block_lt_of_cell? w _ hw170_5)).trans hw170_5), ((HB.out.cell (World.block_lt_of_cell? w _ hw170_6)).trans hw170_6), ((HB.out.cell (World.block_lt_of_cell? w _ hw170_7)).trans hw170_7), ((HB.out.cell (World.block_lt_of_cell? w _ hw170_8)).trans hw170_8), ((HB.out.cell (World.block_lt_of_cell? w _ hw170_9)).trans hw170_9), ((HB.out.cell (World.block_lt_of_cell? w _ hw170_10)).trans hw170_10), ((HB.out.cell (World.block_lt_of_cell? w _ hw170_11)).trans hw170_11), ((HB.out.cell (World.block_lt_of_cell? w _ hw170_12)).trans hw170_12), ((HB.out.cell (World.block_lt_of_cell? w _ hw170_13)).trans hw170_13), ((HB.out.cell (World.block_lt_of_cell? w _ hw170_14)).trans hw170_14), ((HB.out.cell (World.block_lt_of_cell? w _ hw172_0)).trans hw172_0), ((HB.out.cell (World.block_lt_of_cell? w _ hw172_1)).trans hw172_1), ((HB.out.cell (World.block_lt_of_cell? w _ hw172_2)).trans hw172_2), ((HB.out.cell (World.block_lt_of_cell? w _ hw172_3)).trans hw172_3), ((HB.out.cell (World.block_lt_of_cell? w _ hw172_4)).trans hw172_4), ((HB.out.cell (World.block_lt_of_cell? w _ hw172_5)).trans hw172_5), ((HB.out.cell (World.block_lt_of_cell? w _ hw172_6)).trans hw172_6), ((HB.out.cell (World.block_lt_of_cell? w _ hw172_7)).trans hw172_7), ((HB.out.cell (World.block_lt_of_cell? w _ hw172_8)).trans hw172_8), ((HB.out.cell (World.block_lt_of_cell? w _ hw172_9)).trans hw172_9), ((HB.out.cell (World.block_lt_of_cell? w _ hw172_10)).trans hw172_10), ((HB.out.cell (World.block_lt_of_cell? w _ hw172_11)).trans hw172_11), ((HB.out.cell (World.block_lt_of_cell? w _ hw172_12)).trans hw172_12), ((HB.out.cell (World.block_lt_of_cell? w _ hw172_13)).trans hw172_13), ((HB.out.cell (World.block_lt_of_cell? w _ hw172_14)).trans hw172_14), ((HB.out.cell (World.block_lt_of_cell? w _ hw174_0)).trans hw174_0), ((HB.out.cell (World.block_lt_of_cell? w _ hw174_1)).trans hw174_1), ((HB.out.cell (World.block_lt_of_cell? w _ hw174_2)).trans hw174_2), ((HB.out.cell (World.block_lt_of_cell? w _ hw174_3)).trans hw174_3), ((HB.out.cell (World.block_lt_of_cell? w _ hw174_4)).trans hw174_4), ((HB.out.cell (World.block_lt_of_cell? w _ hw174_5)).trans hw174_5), ((HB.out.cell (World.block_lt_of_cell? w _ hw174_6)).trans hw174_6), ((HB.out.cell (World.block_lt_of_cell? w _ hw174_7)).trans hw174_7), ((HB.out.cell (World.block_lt_of_cell? w _ hw174_8)).trans hw174_8), ((HB.out.cell (World.block_lt_of_cell? w _ hw174_9)).trans hw174_9), ((HB.out.cell (World.block_lt_of_cell? w _ hw174_10)).trans hw174_10), ((HB.out.cell (World.block_lt_of_cell? w _ hw174_11)).trans hw174_11), ((HB.out.cell (World.block_lt_of_cell? w _ hw174_12)).trans hw174_12), ((HB.out.cell (World.block_lt_of_cell? w _ hw174_13)).trans hw174_13), ((HB.out.cell (World.block_lt_of_cell? w _ hw174_14)).trans hw174_14), ((HB.out.cell (World.block_lt_of_cell? w _ hw179_0)).trans hw179_0), ((HB.out.cell (World.block_lt_of_cell? w _ hw179_1)).trans hw179_1), ((HB.out.cell (World.block_lt_of_cell? w _ hw179_2)).trans hw179_2), ((HB.out.cell (World.block_lt_of_cell? w _ hw179_3)).trans hw179_3), ((HB.out.cell (World.block_lt_of_cell? w _ hw179_4)).trans hw179_4), ((HB.out.cell (World.block_lt_of_cell? w _ hw179_5)).trans hw179_5), ((HB.out.cell (World.block_lt_of_cell? w _ hw179_6)).trans hw179_6), ((HB.out.cell (World.block_lt_of_cell? w _ hw179_7)).trans hw179_7), ((HB.out.cell (World.block_lt_of_cell? w _ hw179_8)).trans hw179_8), ((HB.out.cell (World.block_lt_of_cell? w _ hw179_9)).trans hw179_9), ((HB.out.cell (World.block_lt_of_cell? w _ hw179_10)).trans hw179_10), ((HB.out.cell (World.block_lt_of_cell? w _ hw179_11)).trans hw179_11), ((HB.out.cell (World.block_lt_of_cell? w _ hw179_12)).trans hw179_12), ((HB.out.cell (World.block_lt_of_cell? w _ hw179_13)).trans hw179_13), ((HB.out.cell (World.block_lt_of_cell? w _ hw179_14)).trans hw179_14), ((HB.out.cell (World.block_lt_of_cell? w _ hw180_0)).trans hw180_0), ((HB.out.cell (World.block_lt_of_cell? w _ hw180_1)).trans hw180_1), ((HB.out.cell (World.block_lt_of_cell? w _ hw180_2)).trans hw180_2), ((HB.out.cell (World.block_lt_of_cell? w _ hw180_3)).trans hw180_3), ((HB.out.cell (World.block_lt_of_cell? w _ hw180_4)).trans hw180_4), ((HB.out.cell (World.block_lt_of_cell? w _ hw180_5)).trans hw180_5), ((HB.out.cell (World.block_lt_of_cell? w _ hw180_6)).trans hw180_6), ((HB.out.cell (World.block_lt_of_cell? w _ hw180_7)).trans hw180_7), ((HB.out.cell (World.block_lt_of_cell? w _ hw180_8)).trans hw180_8), ((HB.out.cell (World.block_lt_of_cell? w _ hw180_9)).trans hw180_9), ((HB.out.cell (World.block_lt_of_cell? w _ hw180_10)).trans hw180_10), ((HB.out.cell (World.block_lt_of_cell? w _ hw180_11)).trans hw180_11), ((HB.out.cell (World.block_lt_of_cell? w _ hw180_12)).trans hw180_12), ((HB.out.cell (World.block_lt_of_cell? w _ hw180_13)).trans hw180_13), ((HB.out.cell (World.block_lt_of_cell? w _ hw180_14)).trans hw180_14)⟩ (fun hHeld => ?_); refine with_tabW decoupagelaw26_OwnerTells.tab10 decoupagelaw26_OwnerTells.bits10 (fun HT_ HW_ => ?_)
                          generalize wr.drew = w45 at HB hx170_0 hx170_1 hx170_10 hx170_11 hx170_12 hx170_13 hx170_14 hx170_2 hx170_3 hx170_4 hx170_5 hx170_6 hx170_7 hx170_8 hx170_9 hx172_0 hx172_1 hx172_10 hx172_11 hx172_12 hx172_13 hx172_14 hx172_2 hx172_3 hx172_4 hx172_5 hx172_6 hx172_7 hx172_8 hx172_9 hx174_0 hx174_1 hx174_10 hx174_11 hx174_12 hx174_13 hx174_14 hx174_2 hx174_3 hx174_4 hx174_5 hx174_6 hx174_7 hx174_8 hx174_9 hx179_0 hx179_1 hx179_10 hx179_11 hx179_12 hx179_13 hx179_14 hx179_2 hx179_3 hx179_4 hx179_5 hx179_6 hx179_7 hx179_8 hx179_9 hx180_0 hx180_1 hx180_10 hx180_11 hx180_12 hx180_13 hx180_14 hx180_2 hx180_3 hx180_4 hx180_5 hx180_6 hx180_7 hx180_8 hx180_9 hHeld ⊢
                          refine pure_ (i := 0) (N := some 57) (v := ?_) (a' := ?_) #[true, false, false, false, false, false, false, false, false, false, false, false, false, false, false, false, false, false, false, false, false, false, false, false, false, false, false, false, false, false, false, false, false, false] rfl rfl (any_of HT_.out (by kernel_rfl)) (fun _ _ _ h => h) (Or.inl ⟨by rfl, ?_⟩) ?_ ?_
                          rotate_left
                          · intro w'
                            go_simp
                            with_reducible rfl
                          rotate_left
                          · simp only [Act.put, List.setIfInBounds_toArray, List.set_cons_zero, List.set_cons_succ, i64_w, i32_w]
                            rfl
                          refine pure_ (i := 1) (N := some 58) (v := ?_) (a' := ?_) #[true, true, false, false, false, false, false, false, false, false, false, false, false, false, false, false, false, false, false, false, false, false, false, false, false, false, false, false, false, false, false, false, false, false] rfl rfl (any_of HT_.out (by kernel_rfl)) (fun _ _ _ h => h) (Or.inl ⟨by rfl, ?_⟩) ?_ ?_
                          rotate_left
                          · intro w'
                            go_simp
                            with_reducible rfl
                          rotate_left
                          · simp only [Act.put, List.setIfInBounds_toArray, List.set_cons_zero, List.set_cons_succ, i64_w, i32_w]
                            rfl
                          refine pure_ (i := 2) (N := some 59) (v := ?_) (a' := ?_) #[true, true, true, false, false, false, false, false, false, false, false, false, false, false, false, false, false, false, false, false, false, false, false, false, false, false, false, false, false, false, false, false, false, false] rfl rfl (any_of HT_.out (by kernel_rfl)) (fun _ _ _ h => h) (Or.inl ⟨by rfl, ?_⟩) ?_ ?_
                          rotate_left
                          · intro w'
                            go_simp
                            with_reducible rfl
                          rotate_left
                          · simp only [Act.put, List.setIfInBounds_toArray, List.set_cons_zero, List.set_cons_succ, i64_w, i32_w]
                            rfl
                          refine pure_ (i := 4) (N := some 61) (v := ?_) (a' := ?_) #[true, true, true, false, true, false, false, false, false, false, false, false, false, false, false, false, false, false, false, false, false, false, false, false, false, false, false, false, false, false, false, false, false, false] rfl rfl (any_of HT_.out (by kernel_rfl)) (fun _ _ _ h => h) (Or.inl ⟨by rfl, ?_⟩) ?_ ?_
                          rotate_left
                          · intro w'
                            go_simp
                            with_reducible rfl
                          rotate_left
                          · simp only [Act.put, List.setIfInBounds_toArray, List.set_cons_zero, List.set_cons_succ, i64_w, i32_w]
                            rfl
                          refine pure_ (i := 5) (N := some 62) (v := ?_) (a' := ?_) #[true, true, true, false, true, true, false, false, false, false, false, false, false, false, false, false, false, false, false, false, false, false, false, false, false, false, false, false, false, false, false, false, false, false] rfl rfl (any_of HT_.out (by kernel_rfl)) (fun _ _ _ h => h) (Or.inl ⟨by rfl, ?_⟩) ?_ ?_
                          rotate_left
                          · intro w'
                            go_simp
                            with_reducible rfl
                          rotate_left
                          · simp only [Act.put, List.setIfInBounds_toArray, List.set_cons_zero, List.set_cons_succ, i64_w, i32_w]
                            rfl
                          refine pure_ (i := 7) (N := some 64) (v := ?_) (a' := ?_) #[true, true, true, false, true, true, false, true, false, false, false, false, false, false, false, false, false, false, false, false, false, false, false, false, false, false, false, false, false, false, false, false, false, false] rfl rfl (any_of HT_.out (by kernel_rfl)) (fun _ _ _ h => h) (Or.inl ⟨by rfl, ?_⟩) ?_ ?_
                          rotate_left
                          · intro w'
                            go_simp
                            with_reducible rfl
                          rotate_left
                          · simp only [Act.put, List.setIfInBounds_toArray, List.set_cons_zero, List.set_cons_succ, i64_w, i32_w]
                            rfl
                          refine pure_ (i := 8) (N := some 65) (v := ?_) (a' := ?_) #[true, true, true, false, true, true, false, true, true, false, false, false, false, false, false, false, false, false, false, false, false, false, false, false, false, false, false, false, false, false, false, false, false, false] rfl rfl (any_of HT_.out (by kernel_rfl)) (fun _ _ _ h => h) (Or.inl ⟨by rfl, ?_⟩) ?_ ?_
                          rotate_left
                          · intro w'
                            go_simp
                            with_reducible rfl
                          rotate_left
                          · simp only [Act.put, List.setIfInBounds_toArray, List.set_cons_zero, List.set_cons_succ, i64_w, i32_w]
                            rfl
                          refine pure_ (i := 9) (N := some 66) (v := ?_) (a' := ?_) #[true, true, true, false, true, true, false, true, true, true, false, false, false, false, false, false, false, false, false, false, false, false, false, false, false, false, false, false, false, false, false, false, false, false] rfl rfl (any_of HT_.out (by kernel_rfl)) (fun _ _ _ h => h) (Or.inl ⟨by rfl, ?_⟩) ?_ ?_
                          rotate_left
                          · intro w'
                            go_simp
                            with_reducible rfl
                          rotate_left
                          · simp only [Act.put, List.setIfInBounds_toArray, List.set_cons_zero, List.set_cons_succ, i64_w, i32_w]
                            rfl
                          refine pure_ (i := 11) (N := some 68) (v := ?_) (a' := ?_) #[true, true, true, false, true, true, false, true, true, true, false, true, false, false, false, false, false, false, false, false, false, false, false, false, false, false, false, false, false, false, false, false, false, false] rfl rfl (any_of HT_.out (by kernel_rfl)) (fun _ _ _ h => h) (Or.inl ⟨by rfl, ?_⟩) ?_ ?_
                          rotate_left
                          · intro w'
                            go_simp
                            with_reducible rfl
                          rotate_left
                          · simp only [Act.put, List.setIfInBounds_toArray, List.set_cons_zero, List.set_cons_succ, i64_w, i32_w]
                            rfl
                          refine pure_ (i := 12) (N := some 69) (v := ?_) (a' := ?_) #[true, true, true, false, true, true, false, true, true, true, false, true, true, false, false, false, false, false, false, false, false, false, false, false, false, false, false, false, false, false, false, false, false, false] rfl rfl (any_of HT_.out (by kernel_rfl)) (fun _ _ _ h => h) (Or.inl ⟨by rfl, ?_⟩) ?_ ?_
                          rotate_left
                          · intro w'
                            go_simp
                            with_reducible rfl
                          rotate_left
                          · simp only [Act.put, List.setIfInBounds_toArray, List.set_cons_zero, List.set_cons_succ, i64_w, i32_w]
                            rfl
                          refine take_ (i := 3) (N := some 60) (v := ?_) (a' := ?_) #[true, true, true, true, true, true, false, true, true, true, false, true, true, false, false, false, false, false, false, false, false, false, false, false, false, false, false, false, false, false, false, false, false, false] rfl rfl (take_ofW HT_.out HW_.out (by kernel_rfl)) (fun _ _ _ h => h) (Or.inl ⟨by rfl, ?_⟩) hHeld ?_ ?_
                          rotate_left
                          · rintro w' ⟨s0, s1, s2, s3, s4, s5, s6, s7, s8, s9, s10, s11, s12, s13, s14, s15, s16, s17, s18, s19, s20, s21, s22, s23, s24, s25, s26, s27, s28, s29, s30, s31, s32, s33, s34, s35, s36, s37, s38, s39, s40, s41, s42, s43, s44, s45, s46, s47, s48, s49, s50, s51, s52, s53, s54, s55, s56, s57, s58, s59, s60, s61, s62, s63, s64, s65, s66, s67, s68, s69, s70, s71, s72, s73, s74⟩
                            go_simp
                            with_reducible rfl
                          rotate_left
                          · simp only [Act.put, List.setIfInBounds_toArray, List.set_cons_zero, List.set_cons_succ, i64_w, i32_w]
                            rfl
                          refine take_ (i := 10) (N := some 67) (v := ?_) (a' := ?_) #[true, true, true, true, true, true, false, true, true, true, true, true, true, false, false, false, false, false, false, false, false, false, false, false, false, false, false, false, false, false, false, false, false, false] rfl rfl (take_ofW HT_.out HW_.out (by kernel_rfl)) (fun _ _ _ h => h) (Or.inl ⟨by rfl, ?_⟩) hHeld ?_ ?_
                          rotate_left
                          · rintro w' ⟨s0, s1, s2, s3, s4, s5, s6, s7, s8, s9, s10, s11, s12, s13, s14, s15, s16, s17, s18, s19, s20, s21, s22, s23, s24, s25, s26, s27, s28, s29, s30, s31, s32, s33, s34, s35, s36, s37, s38, s39, s40, s41, s42, s43, s44, s45, s46, s47, s48, s49, s50, s51, s52, s53, s54, s55, s56, s57, s58, s59, s60, s61, s62, s63, s64, s65, s66, s67, s68, s69, s70, s71, s72, s73, s74⟩
                            go_simp
                            with_reducible rfl
                          rotate_left
                          · simp only [Act.put, List.setIfInBounds_toArray, List.set_cons_zero, List.set_cons_succ, i64_w, i32_w]
                            rfl
                          refine one_ (i := 6) (N := some 63) #[true, true, true, true, true, true, true, true, true, true, true, true, true, false, false, false, false, false, false, false, false, false, false, false, false, false, false, false, false, false, false, false, false, false] rfl rfl (one_of HT_.out (by kernel_rfl)) (by decide) (fun K hK => ?_)
                          refine goes_ Try.func18 (by kernel_rfl) rfl #[.agg #[.int .i64 ((rd_T26 l0 x54_3).f0), .int .i64 ((rd_T26 l0 x54_3).f1), .int .i64 ((rd_T26 l0 x54_3).f2.f0), .int .i64 ((rd_T26 l0 x54_3).f2.f1), .int .i64 ((rd_T26 l0 x54_3).f2.f2), .int .i64 ((rd_T26 l0 x54_3).f2.f3), .int .i64 ((rd_T26 l0 x54_3).f3.f0), .int .i64 ((rd_T26 l0 x54_3).f3.f1), .int .i64 ((rd_T26 l0 x54_3).f3.f2), .int .i64 ((rd_T26 l0 x54_3).f3.f3), .int .i64 ((rd_T26 l0 x54_3).f4.f0), .int .i64 ((rd_T26 l0 x54_3).f4.f1), .int .i64 ((rd_T26 l0 x54_3).f4.f2), .int .i64 ((rd_T26 l0 x54_3).f4.f3), .int .i64 ((rd_T26 l0 x54_3).f5)], .int .i64 a1, .int .i64 a2] (by rfl) rfl rfl (by (try simp only [List.map_toArray, List.map_cons, List.map_nil]); first | done | rfl | (simp only [List.length_drop, List.length_take]; rfl)) ?_
                          with_reducible refine (owner_Shows.calls ((rd_T26 l0 x54_3).f0) ((rd_T26 l0 x54_3).f1) ((rd_T26 l0 x54_3).f2.f0) ((rd_T26 l0 x54_3).f2.f1) ((rd_T26 l0 x54_3).f2.f2) ((rd_T26 l0 x54_3).f2.f3) ((rd_T26 l0 x54_3).f3.f0) ((rd_T26 l0 x54_3).f3.f1) ((rd_T26 l0 x54_3).f3.f2) ((rd_T26 l0 x54_3).f3.f3) ((rd_T26 l0 x54_3).f4.f0) ((rd_T26 l0 x54_3).f4.f1) ((rd_T26 l0 x54_3).f4.f2) ((rd_T26 l0 x54_3).f4.f3) ((rd_T26 l0 x54_3).f5) a1 a2 t171 _ A31.out).mono ?_
                          rintro e w46 ⟨rfl, hb⟩
                          refine ⟨_, rfl, ?_⟩
                          have n0_ := Aside0.mk (below_step (by repeat (first | (with_reducible first | exact HB.out | apply below_alloc | apply pw_below_drewN | apply below_drew1) | exact HB.out)) hb)
                          clear HB
                          have HB := n0_
                          clear n0_
                          (try clear hb)
                          (try clear hb2)
                          (try clear hk)
                          (try clear hi)
                          refine hK.out _ _ ⟨((HB.out.cell (World.block_lt_of_cell? w _ hw170_0)).trans hw170_0), ((HB.out.cell (World.block_lt_of_cell? w _ hw170_1)).trans hw170_1), ((HB.out.cell (World.block_lt_of_cell? w _ hw170_2)).trans hw170_2), ((HB.out.cell (World.block_lt_of_cell? w _ hw170_3)).trans hw170_3), ((HB.out.cell (World.block_lt_of_cell? w _ hw170_4)).trans hw170_4), ((HB.out.cell (World.block_lt_of_cell? w _ hw170_5)).trans hw170_5), ((HB.out.cell (World.block_lt_of_cell? w _ hw170_6)).trans hw170_6), ((HB.out.cell (World.block_lt_of_cell? w _ hw170_7)).trans hw170_7), ((HB.out.cell (World.block_lt_of_cell? w _ hw170_8)).trans hw170_8), ((HB.out.cell (World.block_lt_of_cell? w _ hw170_9)).trans hw170_9), ((HB.out.cell (World.block_lt_of_cell? w _ hw170_10)).trans hw170_10), ((HB.out.cell (World.block_lt_of_cell? w _ hw170_11)).trans hw170_11), ((HB.out.cell (World.block_lt_of_cell? w _ hw170_12)).trans hw170_12), ((HB.out.cell (World.block_lt_of_cell? w _ hw170_13)).trans hw170_13), ((HB.out.cell (World.block_lt_of_cell? w _ hw170_14)).trans hw170_14), ((HB.out.cell (World.block_lt_of_cell? w _ hw172_0)).trans hw172_0), ((HB.out.cell (World.block_lt_of_cell? w _ hw172_1)).trans hw172_1), ((HB.out.cell (World.block_lt_of_cell? w _ hw172_2)).trans hw172_2), ((HB.out.cell (World.block_lt_of_cell? w _ hw172_3)).trans hw172_3), ((HB.out.cell (World.block_lt_of_cell? w _ hw172_4)).trans hw172_4), ((HB.out.cell (World.block_lt_of_cell? w _ hw172_5)).trans hw172_5), ((HB.out.cell (World.block_lt_of_cell? w _ hw172_6)).trans hw172_6), ((HB.out.cell (World.block_lt_of_cell? w _ hw172_7)).trans hw172_7), ((HB.out.cell (World.block_lt_of_cell? w _ hw172_8)).trans hw172_8), ((HB.out.cell (World.block_lt_of_cell? w _ hw172_9)).trans hw172_9), ((HB.out.cell (World.block_lt_of_cell? w _ hw172_10)).trans hw172_10), ((HB.out.cell (World.block_lt_of_cell? w _ hw172_11)).trans hw172_11), ((HB.out.cell (World.block_lt_of_cell? w _ hw172_12)).trans hw172_12), ((HB.out.cell (World.block_lt_of_cell? w _ hw172_13)).trans hw172_13), ((HB.out.cell (World.block_lt_of_cell? w _ hw172_14)).trans hw172_14), ((HB.out.cell (World.block_lt_of_cell? w _ hw174_0)).trans hw174_0), ((HB.out.cell (World.block_lt_of_cell? w _ hw174_1)).trans hw174_1), ((HB.out.cell (World.block_lt_of_cell? w _ hw174_2)).trans hw174_2), ((HB.out.cell (World.block_lt_of_cell? w _ hw174_3)).trans hw174_3), ((HB.out.cell (World.block_lt_of_cell? w _ hw174_4)).trans hw174_4), ((HB.out.cell (World.block_lt_of_cell? w _ hw174_5)).trans hw174_5), ((HB.out.cell (World.block_lt_of_cell? w _ hw174_6)).trans hw174_6), ((HB.out.cell (World.block_lt_of_cell? w _ hw174_7)).trans hw174_7), ((HB.out.cell (World.block_lt_of_cell? w _ hw174_8)).trans hw174_8), ((HB.out.cell (World.block_lt_of_cell? w _ hw174_9)).trans hw174_9), ((HB.out.cell (World.block_lt_of_cell? w _ hw174_10)).trans hw174_10), ((HB.out.cell (World.block_lt_of_cell? w _ hw174_11)).trans hw174_11), ((HB.out.cell (World.block_lt_of_cell? w _ hw174_12)).trans hw174_12), ((HB.out.cell (World.block_lt_of_cell? w _ hw174_13)).trans hw174_13), ((HB.out.cell (World.block_lt_of_cell? w _ hw174_14)).trans hw174_14), ((HB.out.cell (World.block_lt_of_cell? w _ hw179_0)).trans hw179_0), ((HB.out.cell (World.block_lt_of_cell? w _ hw179_1)).trans hw179_1), ((HB.out.cell (World.block_lt_of_cell? w _ hw179_2)).trans hw179_2), ((HB.out.cell (World.block_lt_of_cell? w _ hw179_3)).trans hw179_3), ((HB.out.cell (World.block_lt_of_cell? w _ hw179_4)).trans hw179_4), ((HB.out.cell (World.block_lt_of_cell? w _ hw179_5)).trans hw179_5), ((HB.out.cell (World.block_lt_of_cell? w _ hw179_6)).trans hw179_6), ((HB.out.cell (World.block_lt_of_cell? w _ hw179_7)).trans hw179_7), ((HB.out.cell (World.block_lt_of_cell? w _ hw179_8)).trans hw179_8), ((HB.out.cell (World.block_lt_of_cell? w _ hw179_9)).trans hw179_9), ((HB.out.cell (World.block_lt_of_cell? w _ hw179_10)).trans hw179_10), ((HB.out.cell (World.block_lt_of_cell? w _ hw179_11)).trans hw179_11), ((HB.out.cell (World.block_lt_of_cell? w _ hw179_12)).trans hw179_12), ((HB.out.cell (World.block_lt_of_cell? w _ hw179_13)).trans hw179_13), ((HB.out.cell (World.block_lt_of_cell? w _ hw179_14)).trans hw179_14), ((HB.out.cell (World.block_lt_of_cell? w _ hw180_0)).trans hw180_0), ((HB.out.cell (World.block_lt_of_cell? w _ hw180_1)).trans hw180_1), ((HB.out.cell (World.block_lt_of_cell? w _ hw180_2)).trans hw180_2), ((HB.out.cell (World.block_lt_of_cell? w _ hw180_3)).trans hw180_3), ((HB.out.cell (World.block_lt_of_cell? w _ hw180_4)).trans hw180_4), ((HB.out.cell (World.block_lt_of_cell? w _ hw180_5)).trans hw180_5), ((HB.out.cell (World.block_lt_of_cell? w _ hw180_6)).trans hw180_6), ((HB.out.cell (World.block_lt_of_cell? w _ hw180_7)).trans hw180_7), ((HB.out.cell (World.block_lt_of_cell? w _ hw180_8)).trans hw180_8), ((HB.out.cell (World.block_lt_of_cell? w _ hw180_9)).trans hw180_9), ((HB.out.cell (World.block_lt_of_cell? w _ hw180_10)).trans hw180_10), ((HB.out.cell (World.block_lt_of_cell? w _ hw180_11)).trans hw180_11), ((HB.out.cell (World.block_lt_of_cell? w _ hw180_12)).trans hw180_12), ((HB.out.cell (World.block_lt_of_cell? w _ hw180_13)).trans hw180_13), ((HB.out.cell (World.block_lt_of_cell? w _ hw180_14)).trans hw180_14)⟩ (fun hHeld => ?_)
                          clear hK K
                          refine norm_ (a' := ?_) ?_ ?_
                          rotate_left
                          · show Act.put _ (some 63) _ = _
                            simp only [Act.put, List.setIfInBounds_toArray, List.set_cons_zero, List.set_cons_succ, i64_w, i32_w]
                            rfl
                          refine one_ (i := 13) (N := some 70) #[true, true, true, true, true, true, true, true, true, true, true, true, true, true, false, false, false, false, false, false, false, false, false, false, false, false, false, false, false, false, false, false, false, false] rfl rfl (one_of HT_.out (by kernel_rfl)) (by decide) (fun K hK => ?_)
                          refine goes_ Try.func16 (by kernel_rfl) rfl #[.agg #[.int .i64 ((rd_T26 l0 x54_3).f0), .int .i64 ((rd_T26 l0 x54_3).f1), .int .i64 ((rd_T26 l0 x54_3).f2.f0), .int .i64 ((rd_T26 l0 x54_3).f2.f1), .int .i64 ((rd_T26 l0 x54_3).f2.f2), .int .i64 ((rd_T26 l0 x54_3).f2.f3), .int .i64 ((rd_T26 l0 x54_3).f3.f0), .int .i64 ((rd_T26 l0 x54_3).f3.f1), .int .i64 ((rd_T26 l0 x54_3).f3.f2), .int .i64 ((rd_T26 l0 x54_3).f3.f3), .int .i64 ((rd_T26 l0 x54_3).f4.f0), .int .i64 ((rd_T26 l0 x54_3).f4.f1), .int .i64 ((rd_T26 l0 x54_3).f4.f2), .int .i64 ((rd_T26 l0 x54_3).f4.f3), .int .i64 ((rd_T26 l0 x54_3).f5)], .int .i64 a1, .int .i64 a2] (by rfl) rfl rfl (by (try simp only [List.map_toArray, List.map_cons, List.map_nil]); first | done | rfl | (simp only [List.length_drop, List.length_take]; rfl)) ?_
                          with_reducible refine (decoupageref26_Shows.calls ((rd_T26 l0 x54_3).f0) ((rd_T26 l0 x54_3).f1) ((rd_T26 l0 x54_3).f2.f0) ((rd_T26 l0 x54_3).f2.f1) ((rd_T26 l0 x54_3).f2.f2) ((rd_T26 l0 x54_3).f2.f3) ((rd_T26 l0 x54_3).f3.f0) ((rd_T26 l0 x54_3).f3.f1) ((rd_T26 l0 x54_3).f3.f2) ((rd_T26 l0 x54_3).f3.f3) ((rd_T26 l0 x54_3).f4.f0) ((rd_T26 l0 x54_3).f4.f1) ((rd_T26 l0 x54_3).f4.f2) ((rd_T26 l0 x54_3).f4.f3) ((rd_T26 l0 x54_3).f5) a1 a2 t173 _ A32.out).mono ?_
                          rintro e w47 ⟨rfl, hb⟩
                          refine ⟨_, rfl, ?_⟩
                          have n0_ := Aside0.mk (below_step (by repeat (first | (with_reducible first | exact HB.out | apply below_alloc | apply pw_below_drewN | apply below_drew1) | exact HB.out)) hb)
                          clear HB
                          have HB := n0_
                          clear n0_
                          (try clear hb)
                          (try clear hb2)
                          (try clear hk)
                          (try clear hi)
                          refine hK.out _ _ ⟨((HB.out.cell (World.block_lt_of_cell? w _ hw170_0)).trans hw170_0), ((HB.out.cell (World.block_lt_of_cell? w _ hw170_1)).trans hw170_1), ((HB.out.cell (World.block_lt_of_cell? w _ hw170_2)).trans hw170_2), ((HB.out.cell (World.block_lt_of_cell? w _ hw170_3)).trans hw170_3), ((HB.out.cell (World.block_lt_of_cell? w _ hw170_4)).trans hw170_4), ((HB.out.cell (World.block_lt_of_cell? w _ hw170_5)).trans hw170_5), ((HB.out.cell (World.block_lt_of_cell? w _ hw170_6)).trans hw170_6), ((HB.out.cell (World.block_lt_of_cell? w _ hw170_7)).trans hw170_7), ((HB.out.cell (World.block_lt_of_cell? w _ hw170_8)).trans hw170_8), ((HB.out.cell (World.block_lt_of_cell? w _ hw170_9)).trans hw170_9), ((HB.out.cell (World.block_lt_of_cell? w _ hw170_10)).trans hw170_10), ((HB.out.cell (World.block_lt_of_cell? w _ hw170_11)).trans hw170_11), ((HB.out.cell (World.block_lt_of_cell? w _ hw170_12)).trans hw170_12), ((HB.out.cell (World.block_lt_of_cell? w _ hw170_13)).trans hw170_13), ((HB.out.cell (World.block_lt_of_cell? w _ hw170_14)).trans hw170_14), ((HB.out.cell (World.block_lt_of_cell? w _ hw172_0)).trans hw172_0), ((HB.out.cell (World.block_lt_of_cell? w _ hw172_1)).trans hw172_1), ((HB.out.cell (World.block_lt_of_cell? w _ hw172_2)).trans hw172_2), ((HB.out.cell (World.block_lt_of_cell? w _ hw172_3)).trans hw172_3), ((HB.out.cell (World.block_lt_of_cell? w _ hw172_4)).trans hw172_4), ((HB.out.cell (World.block_lt_of_cell? w _ hw172_5)).trans hw172_5), ((HB.out.cell (World.block_lt_of_cell? w _ hw172_6)).trans hw172_6), ((HB.out.cell (World.block_lt_of_cell? w _ hw172_7)).trans hw172_7), ((HB.out.cell (World.block_lt_of_cell? w _ hw172_8)).trans hw172_8), ((HB.out.cell (World.block_lt_of_cell? w _ hw172_9)).trans hw172_9), ((HB.out.cell (World.block_lt_of_cell? w _ hw172_10)).trans hw172_10), ((HB.out.cell (World.block_lt_of_cell? w _ hw172_11)).trans hw172_11), ((HB.out.cell (World.block_lt_of_cell? w _ hw172_12)).trans hw172_12), ((HB.out.cell (World.block_lt_of_cell? w _ hw172_13)).trans hw172_13), ((HB.out.cell (World.block_lt_of_cell? w _ hw172_14)).trans hw172_14), ((HB.out.cell (World.block_lt_of_cell? w _ hw174_0)).trans hw174_0), ((HB.out.cell (World.block_lt_of_cell? w _ hw174_1)).trans hw174_1), ((HB.out.cell (World.block_lt_of_cell? w _ hw174_2)).trans hw174_2), ((HB.out.cell (World.block_lt_of_cell? w _ hw174_3)).trans hw174_3), ((HB.out.cell (World.block_lt_of_cell? w _ hw174_4)).trans hw174_4), ((HB.out.cell (World.block_lt_of_cell? w _ hw174_5)).trans hw174_5), ((HB.out.cell (World.block_lt_of_cell? w _ hw174_6)).trans hw174_6), ((HB.out.cell (World.block_lt_of_cell? w _ hw174_7)).trans hw174_7), ((HB.out.cell (World.block_lt_of_cell? w _ hw174_8)).trans hw174_8), ((HB.out.cell (World.block_lt_of_cell? w _ hw174_9)).trans hw174_9), ((HB.out.cell (World.block_lt_of_cell? w _ hw174_10)).trans hw174_10), ((HB.out.cell (World.block_lt_of_cell? w _ hw174_11)).trans hw174_11), ((HB.out.cell (World.block_lt_of_cell? w _ hw174_12)).trans hw174_12), ((HB.out.cell (World.block_lt_of_cell? w _ hw174_13)).trans hw174_13), ((HB.out.cell (World.block_lt_of_cell? w _ hw174_14)).trans hw174_14), ((HB.out.cell (World.block_lt_of_cell? w _ hw179_0)).trans hw179_0), ((HB.out.cell (World.block_lt_of_cell? w _ hw179_1)).trans hw179_1), ((HB.out.cell (World.block_lt_of_cell? w _ hw179_2)).trans hw179_2), ((HB.out.cell (World.block_lt_of_cell? w _ hw179_3)).trans hw179_3), ((HB.out.cell (World.block_lt_of_cell? w _ hw179_4)).trans hw179_4), ((HB.out.cell (World.block_lt_of_cell? w _ hw179_5)).trans hw179_5), ((HB.out.cell (World.block_lt_of_cell? w _ hw179_6)).trans hw179_6), ((HB.out.cell (World.block_lt_of_cell? w _ hw179_7)).trans hw179_7), ((HB.out.cell (World.block_lt_of_cell? w _ hw179_8)).trans hw179_8), ((HB.out.cell (World.block_lt_of_cell? w _ hw179_9)).trans hw179_9), ((HB.out.cell (World.block_lt_of_cell? w _ hw179_10)).trans hw179_10), ((HB.out.cell (World.block_lt_of_cell? w _ hw179_11)).trans hw179_11), ((HB.out.cell (World.block_lt_of_cell? w _ hw179_12)).trans hw179_12), ((HB.out.cell (World.block_lt_of_cell? w _ hw179_13)).trans hw179_13), ((HB.out.cell (World.block_lt_of_cell? w _ hw179_14)).trans hw179_14), ((HB.out.cell (World.block_lt_of_cell? w _ hw180_0)).trans hw180_0), ((HB.out.cell (World.block_lt_of_cell? w _ hw180_1)).trans hw180_1), ((HB.out.cell (World.block_lt_of_cell? w _ hw180_2)).trans hw180_2), ((HB.out.cell (World.block_lt_of_cell? w _ hw180_3)).trans hw180_3), ((HB.out.cell (World.block_lt_of_cell? w _ hw180_4)).trans hw180_4), ((HB.out.cell (World.block_lt_of_cell? w _ hw180_5)).trans hw180_5), ((HB.out.cell (World.block_lt_of_cell? w _ hw180_6)).trans hw180_6), ((HB.out.cell (World.block_lt_of_cell? w _ hw180_7)).trans hw180_7), ((HB.out.cell (World.block_lt_of_cell? w _ hw180_8)).trans hw180_8), ((HB.out.cell (World.block_lt_of_cell? w _ hw180_9)).trans hw180_9), ((HB.out.cell (World.block_lt_of_cell? w _ hw180_10)).trans hw180_10), ((HB.out.cell (World.block_lt_of_cell? w _ hw180_11)).trans hw180_11), ((HB.out.cell (World.block_lt_of_cell? w _ hw180_12)).trans hw180_12), ((HB.out.cell (World.block_lt_of_cell? w _ hw180_13)).trans hw180_13), ((HB.out.cell (World.block_lt_of_cell? w _ hw180_14)).trans hw180_14)⟩ (fun hHeld => ?_)
                          clear hK K
                          refine norm_ (a' := ?_) ?_ ?_
                          rotate_left
                          · show Act.put _ (some 70) _ = _
                            simp only [Act.put, List.setIfInBounds_toArray, List.set_cons_zero, List.set_cons_succ, i64_w, i32_w]
                            rfl
                          refine pure_ (i := 14) (N := some 71) (v := ?_) (a' := ?_) #[true, true, true, true, true, true, true, true, true, true, true, true, true, true, true, false, false, false, false, false, false, false, false, false, false, false, false, false, false, false, false, false, false, false] rfl rfl (any_of HT_.out (by kernel_rfl)) (fun _ _ _ h => h) (Or.inl ⟨by rfl, ?_⟩) ?_ ?_
                          rotate_left
                          · intro w'
                            go_simp
                            with_reducible rfl
                          rotate_left
                          · simp only [Act.put, List.setIfInBounds_toArray, List.set_cons_zero, List.set_cons_succ, i64_w, i32_w]
                            rfl
                          refine pure_ (i := 15) (N := some 72) (v := ?_) (a' := ?_) #[true, true, true, true, true, true, true, true, true, true, true, true, true, true, true, true, false, false, false, false, false, false, false, false, false, false, false, false, false, false, false, false, false, false] rfl rfl (any_of HT_.out (by kernel_rfl)) (fun _ _ _ h => h) (Or.inl ⟨by rfl, ?_⟩) ?_ ?_
                          rotate_left
                          · intro w'
                            go_simp
                            with_reducible rfl
                          rotate_left
                          · simp only [Act.put, List.setIfInBounds_toArray, List.set_cons_zero, List.set_cons_succ, i64_w, i32_w]
                            rfl
                          refine pure_ (i := 16) (N := some 73) (v := ?_) (a' := ?_) #[true, true, true, true, true, true, true, true, true, true, true, true, true, true, true, true, true, false, false, false, false, false, false, false, false, false, false, false, false, false, false, false, false, false] rfl rfl (any_of HT_.out (by kernel_rfl)) (fun _ _ _ h => h) (Or.inl ⟨by rfl, ?_⟩) ?_ ?_
                          rotate_left
                          · intro w'
                            go_simp
                            with_reducible rfl
                          rotate_left
                          · simp only [Act.put, List.setIfInBounds_toArray, List.set_cons_zero, List.set_cons_succ, i64_w, i32_w]
                            rfl
                          refine pure_ (i := 17) (N := some 74) (v := ?_) (a' := ?_) #[true, true, true, true, true, true, true, true, true, true, true, true, true, true, true, true, true, true, false, false, false, false, false, false, false, false, false, false, false, false, false, false, false, false] rfl rfl (any_of HT_.out (by kernel_rfl)) (fun _ _ _ h => h) (Or.inl ⟨by rfl, ?_⟩) ?_ ?_
                          rotate_left
                          · intro w'
                            go_simp
                            with_reducible rfl
                          rotate_left
                          · simp only [Act.put, List.setIfInBounds_toArray, List.set_cons_zero, List.set_cons_succ, i64_w, i32_w]
                            rfl
                          refine pure_ (i := 18) (N := some 75) (v := ?_) (a' := ?_) #[true, true, true, true, true, true, true, true, true, true, true, true, true, true, true, true, true, true, true, false, false, false, false, false, false, false, false, false, false, false, false, false, false, false] rfl rfl (any_of HT_.out (by kernel_rfl)) (fun _ _ _ h => h) (Or.inl ⟨by rfl, ?_⟩) ?_ ?_
                          rotate_left
                          · intro w'
                            go_simp
                            with_reducible rfl
                          rotate_left
                          · simp only [Act.put, List.setIfInBounds_toArray, List.set_cons_zero, List.set_cons_succ, i64_w, i32_w]
                            rfl
                          refine pure_ (i := 21) (N := some 78) (v := ?_) (a' := ?_) #[true, true, true, true, true, true, true, true, true, true, true, true, true, true, true, true, true, true, true, false, false, true, false, false, false, false, false, false, false, false, false, false, false, false] rfl rfl (any_of HT_.out (by kernel_rfl)) (fun _ _ _ h => h) (Or.inl ⟨by rfl, ?_⟩) ?_ ?_
                          rotate_left
                          · intro w'
                            go_simp
                            with_reducible rfl
                          rotate_left
                          · simp only [Act.put, List.setIfInBounds_toArray, List.set_cons_zero, List.set_cons_succ, i64_w, i32_w]
                            rfl
                          refine pure_ (i := 22) (N := some 79) (v := ?_) (a' := ?_) #[true, true, true, true, true, true, true, true, true, true, true, true, true, true, true, true, true, true, true, false, false, true, true, false, false, false, false, false, false, false, false, false, false, false] rfl rfl (any_of HT_.out (by kernel_rfl)) (fun _ _ _ h => h) (Or.inl ⟨by rfl, ?_⟩) ?_ ?_
                          rotate_left
                          · intro w'
                            go_simp
                            with_reducible rfl
                          rotate_left
                          · simp only [Act.put, List.setIfInBounds_toArray, List.set_cons_zero, List.set_cons_succ, i64_w, i32_w]
                            rfl
                          refine pure_ (i := 23) (N := some 80) (v := ?_) (a' := ?_) #[true, true, true, true, true, true, true, true, true, true, true, true, true, true, true, true, true, true, true, false, false, true, true, true, false, false, false, false, false, false, false, false, false, false] rfl rfl (any_of HT_.out (by kernel_rfl)) (fun _ _ _ h => h) (Or.inl ⟨by rfl, ?_⟩) ?_ ?_
                          rotate_left
                          · intro w'
                            go_simp
                            with_reducible rfl
                          rotate_left
                          · simp only [Act.put, List.setIfInBounds_toArray, List.set_cons_zero, List.set_cons_succ, i64_w, i32_w]
                            rfl
                          refine pure_ (i := 24) (N := some 81) (v := ?_) (a' := ?_) #[true, true, true, true, true, true, true, true, true, true, true, true, true, true, true, true, true, true, true, false, false, true, true, true, true, false, false, false, false, false, false, false, false, false] rfl rfl (any_of HT_.out (by kernel_rfl)) (fun _ _ _ h => h) (Or.inl ⟨by rfl, ?_⟩) ?_ ?_
                          rotate_left
                          · intro w'
                            go_simp
                            with_reducible rfl
                          rotate_left
                          · simp only [Act.put, List.setIfInBounds_toArray, List.set_cons_zero, List.set_cons_succ, i64_w, i32_w]
                            rfl
                          refine pure_ (i := 26) (N := some 83) (v := ?_) (a' := ?_) #[true, true, true, true, true, true, true, true, true, true, true, true, true, true, true, true, true, true, true, false, false, true, true, true, true, false, true, false, false, false, false, false, false, false] rfl rfl (any_of HT_.out (by kernel_rfl)) (fun _ _ _ h => h) (Or.inl ⟨by rfl, ?_⟩) ?_ ?_
                          rotate_left
                          · intro w'
                            go_simp
                            with_reducible rfl
                          rotate_left
                          · simp only [Act.put, List.setIfInBounds_toArray, List.set_cons_zero, List.set_cons_succ, i64_w, i32_w]
                            rfl
                          refine pure_ (i := 27) (N := some 84) (v := ?_) (a' := ?_) #[true, true, true, true, true, true, true, true, true, true, true, true, true, true, true, true, true, true, true, false, false, true, true, true, true, false, true, true, false, false, false, false, false, false] rfl rfl (any_of HT_.out (by kernel_rfl)) (fun _ _ _ h => h) (Or.inl ⟨by rfl, ?_⟩) ?_ ?_
                          rotate_left
                          · intro w'
                            go_simp
                            with_reducible rfl
                          rotate_left
                          · simp only [Act.put, List.setIfInBounds_toArray, List.set_cons_zero, List.set_cons_succ, i64_w, i32_w]
                            rfl
                          refine pure_ (i := 28) (N := some 85) (v := ?_) (a' := ?_) #[true, true, true, true, true, true, true, true, true, true, true, true, true, true, true, true, true, true, true, false, false, true, true, true, true, false, true, true, true, false, false, false, false, false] rfl rfl (any_of HT_.out (by kernel_rfl)) (fun _ _ _ h => h) (Or.inl ⟨by rfl, ?_⟩) ?_ ?_
                          rotate_left
                          · intro w'
                            go_simp
                            with_reducible rfl
                          rotate_left
                          · simp only [Act.put, List.setIfInBounds_toArray, List.set_cons_zero, List.set_cons_succ, i64_w, i32_w]
                            rfl
                          refine pure_ (i := 29) (N := some 86) (v := ?_) (a' := ?_) #[true, true, true, true, true, true, true, true, true, true, true, true, true, true, true, true, true, true, true, false, false, true, true, true, true, false, true, true, true, true, false, false, false, false] rfl rfl (any_of HT_.out (by kernel_rfl)) (fun _ _ _ h => h) (Or.inl ⟨by rfl, ?_⟩) ?_ ?_
                          rotate_left
                          · intro w'
                            go_simp
                            with_reducible rfl
                          rotate_left
                          · simp only [Act.put, List.setIfInBounds_toArray, List.set_cons_zero, List.set_cons_succ, i64_w, i32_w]
                            rfl
                          refine take_ (i := 19) (N := some 76) (v := ?_) (a' := ?_) #[true, true, true, true, true, true, true, true, true, true, true, true, true, true, true, true, true, true, true, true, false, true, true, true, true, false, true, true, true, true, false, false, false, false] rfl rfl (take_ofW HT_.out HW_.out (by kernel_rfl)) (fun _ _ _ h => h) (Or.inl ⟨by rfl, ?_⟩) hHeld ?_ ?_
                          rotate_left
                          · rintro w' ⟨s0, s1, s2, s3, s4, s5, s6, s7, s8, s9, s10, s11, s12, s13, s14, s15, s16, s17, s18, s19, s20, s21, s22, s23, s24, s25, s26, s27, s28, s29, s30, s31, s32, s33, s34, s35, s36, s37, s38, s39, s40, s41, s42, s43, s44, s45, s46, s47, s48, s49, s50, s51, s52, s53, s54, s55, s56, s57, s58, s59, s60, s61, s62, s63, s64, s65, s66, s67, s68, s69, s70, s71, s72, s73, s74⟩
                            go_simp
                            with_reducible rfl
                          rotate_left
                          · simp only [Act.put, List.setIfInBounds_toArray, List.set_cons_zero, List.set_cons_succ, i64_w, i32_w]
                            rfl
                          refine take_ (i := 25) (N := some 82) (v := ?_) (a' := ?_) #[true, true, true, true, true, true, true, true, true, true, true, true, true, true, true, true, true, true, true, true, false, true, true, true, true, true, true, true, true, true, false, false, false, false] rfl rfl (take_ofW HT_.out HW_.out (by kernel_rfl)) (fun _ _ _ h => h) (Or.inl ⟨by rfl, ?_⟩) hHeld ?_ ?_
                          rotate_left
                          · rintro w' ⟨s0, s1, s2, s3, s4, s5, s6, s7, s8, s9, s10, s11, s12, s13, s14, s15, s16, s17, s18, s19, s20, s21, s22, s23, s24, s25, s26, s27, s28, s29, s30, s31, s32, s33, s34, s35, s36, s37, s38, s39, s40, s41, s42, s43, s44, s45, s46, s47, s48, s49, s50, s51, s52, s53, s54, s55, s56, s57, s58, s59, s60, s61, s62, s63, s64, s65, s66, s67, s68, s69, s70, s71, s72, s73, s74⟩
                            go_simp
                            with_reducible rfl
                          rotate_left
                          · simp only [Act.put, List.setIfInBounds_toArray, List.set_cons_zero, List.set_cons_succ, i64_w, i32_w]
                            rfl
                          refine take_ (i := 30) (N := some 87) (v := ?_) (a' := ?_) #[true, true, true, true, true, true, true, true, true, true, true, true, true, true, true, true, true, true, true, true, false, true, true, true, true, true, true, true, true, true, true, false, false, false] rfl rfl (take_ofW HT_.out HW_.out (by kernel_rfl)) (fun _ _ _ h => h) (Or.inl ⟨by rfl, ?_⟩) hHeld ?_ ?_
                          rotate_left
                          · rintro w' ⟨s0, s1, s2, s3, s4, s5, s6, s7, s8, s9, s10, s11, s12, s13, s14, s15, s16, s17, s18, s19, s20, s21, s22, s23, s24, s25, s26, s27, s28, s29, s30, s31, s32, s33, s34, s35, s36, s37, s38, s39, s40, s41, s42, s43, s44, s45, s46, s47, s48, s49, s50, s51, s52, s53, s54, s55, s56, s57, s58, s59, s60, s61, s62, s63, s64, s65, s66, s67, s68, s69, s70, s71, s72, s73, s74⟩
                            go_simp
                            with_reducible rfl
                          rotate_left
                          · simp only [Act.put, List.setIfInBounds_toArray, List.set_cons_zero, List.set_cons_succ, i64_w, i32_w]
                            rfl
                          refine one_ (i := 20) (N := some 77) #[true, true, true, true, true, true, true, true, true, true, true, true, true, true, true, true, true, true, true, true, true, true, true, true, true, true, true, true, true, true, true, false, false, false] rfl rfl (one_of HT_.out (by kernel_rfl)) (by decide) (fun K hK => ?_)
                          refine goes_ Try.func22 (by kernel_rfl) rfl #[.agg #[.int .i64 ((rd_T26 l0 x54_3).f0), .int .i64 ((rd_T26 l0 x54_3).f1), .int .i64 ((rd_T26 l0 x54_3).f2.f0), .int .i64 ((rd_T26 l0 x54_3).f2.f1), .int .i64 ((rd_T26 l0 x54_3).f2.f2), .int .i64 ((rd_T26 l0 x54_3).f2.f3), .int .i64 ((rd_T26 l0 x54_3).f3.f0), .int .i64 ((rd_T26 l0 x54_3).f3.f1), .int .i64 ((rd_T26 l0 x54_3).f3.f2), .int .i64 ((rd_T26 l0 x54_3).f3.f3), .int .i64 ((rd_T26 l0 x54_3).f4.f0), .int .i64 ((rd_T26 l0 x54_3).f4.f1), .int .i64 ((rd_T26 l0 x54_3).f4.f2), .int .i64 ((rd_T26 l0 x54_3).f4.f3), .int .i64 ((rd_T26 l0 x54_3).f5)]] (by rfl) rfl rfl (by (try simp only [List.map_toArray, List.map_cons, List.map_nil]); first | done | rfl | (simp only [List.length_drop, List.length_take]; rfl)) ?_
                          with_reducible refine (owner_Seen.calls ((rd_T26 l0 x54_3).f0) ((rd_T26 l0 x54_3).f1) ((rd_T26 l0 x54_3).f2.f0) ((rd_T26 l0 x54_3).f2.f1) ((rd_T26 l0 x54_3).f2.f2) ((rd_T26 l0 x54_3).f2.f3) ((rd_T26 l0 x54_3).f3.f0) ((rd_T26 l0 x54_3).f3.f1) ((rd_T26 l0 x54_3).f3.f2) ((rd_T26 l0 x54_3).f3.f3) ((rd_T26 l0 x54_3).f4.f0) ((rd_T26 l0 x54_3).f4.f1) ((rd_T26 l0 x54_3).f4.f2) ((rd_T26 l0 x54_3).f4.f3) ((rd_T26 l0 x54_3).f5) t175 t176 t177 t178 _ A37.out).mono ?_
                          rintro e w48 ⟨rfl, hb⟩
                          refine ⟨_, rfl, ?_⟩
                          have n0_ := Aside0.mk (below_step (by repeat (first | (with_reducible first | exact HB.out | apply below_alloc | apply pw_below_drewN | apply below_drew1) | exact HB.out)) hb)
                          clear HB
                          have HB := n0_
                          clear n0_
                          (try clear hb)
                          (try clear hb2)
                          (try clear hk)
                          (try clear hi)
                          refine hK.out _ _ ⟨((HB.out.cell (World.block_lt_of_cell? w _ hw170_0)).trans hw170_0), ((HB.out.cell (World.block_lt_of_cell? w _ hw170_1)).trans hw170_1), ((HB.out.cell (World.block_lt_of_cell? w _ hw170_2)).trans hw170_2), ((HB.out.cell (World.block_lt_of_cell? w _ hw170_3)).trans hw170_3), ((HB.out.cell (World.block_lt_of_cell? w _ hw170_4)).trans hw170_4), ((HB.out.cell (World.block_lt_of_cell? w _ hw170_5)).trans hw170_5), ((HB.out.cell (World.block_lt_of_cell? w _ hw170_6)).trans hw170_6), ((HB.out.cell (World.block_lt_of_cell? w _ hw170_7)).trans hw170_7), ((HB.out.cell (World.block_lt_of_cell? w _ hw170_8)).trans hw170_8), ((HB.out.cell (World.block_lt_of_cell? w _ hw170_9)).trans hw170_9), ((HB.out.cell (World.block_lt_of_cell? w _ hw170_10)).trans hw170_10), ((HB.out.cell (World.block_lt_of_cell? w _ hw170_11)).trans hw170_11), ((HB.out.cell (World.block_lt_of_cell? w _ hw170_12)).trans hw170_12), ((HB.out.cell (World.block_lt_of_cell? w _ hw170_13)).trans hw170_13), ((HB.out.cell (World.block_lt_of_cell? w _ hw170_14)).trans hw170_14), ((HB.out.cell (World.block_lt_of_cell? w _ hw172_0)).trans hw172_0), ((HB.out.cell (World.block_lt_of_cell? w _ hw172_1)).trans hw172_1), ((HB.out.cell (World.block_lt_of_cell? w _ hw172_2)).trans hw172_2), ((HB.out.cell (World.block_lt_of_cell? w _ hw172_3)).trans hw172_3), ((HB.out.cell (World.block_lt_of_cell? w _ hw172_4)).trans hw172_4), ((HB.out.cell (World.block_lt_of_cell? w _ hw172_5)).trans hw172_5), ((HB.out.cell (World.block_lt_of_cell? w _ hw172_6)).trans hw172_6), ((HB.out.cell (World.block_lt_of_cell? w _ hw172_7)).trans hw172_7), ((HB.out.cell (World.block_lt_of_cell? w _ hw172_8)).trans hw172_8), ((HB.out.cell (World.block_lt_of_cell? w _ hw172_9)).trans hw172_9), ((HB.out.cell (World.block_lt_of_cell? w _ hw172_10)).trans hw172_10), ((HB.out.cell (World.block_lt_of_cell? w _ hw172_11)).trans hw172_11), ((HB.out.cell (World.block_lt_of_cell? w _ hw172_12)).trans hw172_12), ((HB.out.cell (World.block_lt_of_cell? w _ hw172_13)).trans hw172_13), ((HB.out.cell (World.block_lt_of_cell? w _ hw172_14)).trans hw172_14), ((HB.out.cell (World.block_lt_of_cell? w _ hw174_0)).trans hw174_0), ((HB.out.cell (World.block_lt_of_cell? w _ hw174_1)).trans hw174_1), ((HB.out.cell (World.block_lt_of_cell? w _ hw174_2)).trans hw174_2), ((HB.out.cell (World.block_lt_of_cell? w _ hw174_3)).trans hw174_3), ((HB.out.cell (World.block_lt_of_cell? w _ hw174_4)).trans hw174_4), ((HB.out.cell (World.block_lt_of_cell? w _ hw174_5)).trans hw174_5), ((HB.out.cell (World.block_lt_of_cell? w _ hw174_6)).trans hw174_6), ((HB.out.cell (World.block_lt_of_cell? w _ hw174_7)).trans hw174_7), ((HB.out.cell (World.block_lt_of_cell? w _ hw174_8)).trans hw174_8), ((HB.out.cell (World.block_lt_of_cell? w _ hw174_9)).trans hw174_9), ((HB.out.cell (World.block_lt_of_cell? w _ hw174_10)).trans hw174_10), ((HB.out.cell (World.block_lt_of_cell? w _ hw174_11)).trans hw174_11), ((HB.out.cell (World.block_lt_of_cell? w _ hw174_12)).trans hw174_12), ((HB.out.cell (World.block_lt_of_cell? w _ hw174_13)).trans hw174_13), ((HB.out.cell (World.block_lt_of_cell? w _ hw174_14)).trans hw174_14), ((HB.out.cell (World.block_lt_of_cell? w _ hw179_0)).trans hw179_0), ((HB.out.cell (World.block_lt_of_cell? w _ hw179_1)).trans hw179_1), ((HB.out.cell (World.block_lt_of_cell? w _ hw179_2)).trans hw179_2), ((HB.out.cell (World.block_lt_of_cell? w _ hw179_3)).trans hw179_3), ((HB.out.cell (World.block_lt_of_cell? w _ hw179_4)).trans hw179_4), ((HB.out.cell (World.block_lt_of_cell? w _ hw179_5)).trans hw179_5), ((HB.out.cell (World.block_lt_of_cell? w _ hw179_6)).trans hw179_6), ((HB.out.cell (World.block_lt_of_cell? w _ hw179_7)).trans hw179_7), ((HB.out.cell (World.block_lt_of_cell? w _ hw179_8)).trans hw179_8), ((HB.out.cell (World.block_lt_of_cell? w _ hw179_9)).trans hw179_9), ((HB.out.cell (World.block_lt_of_cell? w _ hw179_10)).trans hw179_10), ((HB.out.cell (World.block_lt_of_cell? w _ hw179_11)).trans hw179_11), ((HB.out.cell (World.block_lt_of_cell? w _ hw179_12)).trans hw179_12), ((HB.out.cell (World.block_lt_of_cell? w _ hw179_13)).trans hw179_13), ((HB.out.cell (World.block_lt_of_cell? w _ hw179_14)).trans hw179_14), ((HB.out.cell (World.block_lt_of_cell? w _ hw180_0)).trans hw180_0), ((HB.out.cell (World.block_lt_of_cell? w _ hw180_1)).trans hw180_1), ((HB.out.cell (World.block_lt_of_cell? w _ hw180_2)).trans hw180_2), ((HB.out.cell (World.block_lt_of_cell? w _ hw180_3)).trans hw180_3), ((HB.out.cell (World.block_lt_of_cell? w _ hw180_4)).trans hw180_4), ((HB.out.cell (World.block_lt_of_cell? w _ hw180_5)).trans hw180_5), ((HB.out.cell (World.block_lt_of_cell? w _ hw180_6)).trans hw180_6), ((HB.out.cell (World.block_lt_of_cell? w _ hw180_7)).trans hw180_7), ((HB.out.cell (World.block_lt_of_cell? w _ hw180_8)).trans hw180_8), ((HB.out.cell (World.block_lt_of_cell? w _ hw180_9)).trans hw180_9), ((HB.out.cell (World.block_lt_of_cell? w _ hw180_10)).trans hw180_10), ((HB.out.cell (World.block_lt_of_cell? w _ hw180_11)).trans hw180_11), ((HB.out.cell (World.block_lt_of_cell? w _ hw180_12)).trans hw180_12), ((HB.out.cell (World.block_lt_of_cell? w _ hw180_13)).trans hw180_13), ((HB.out.cell (World.block_lt_of_cell? w _ hw180_14)).trans hw180_14)⟩ (fun hHeld => ?_)
                          clear hK K
                          refine norm_ (a' := ?_) ?_ ?_
                          rotate_left
                          · show Act.put _ (some 77) _ = _
                            simp only [Act.put, List.setIfInBounds_toArray, List.set_cons_zero, List.set_cons_succ, i64_w, i32_w]
                            rfl
                          refine one_ (i := 31) (N := some 88) #[true, true, true, true, true, true, true, true, true, true, true, true, true, true, true, true, true, true, true, true, true, true, true, true, true, true, true, true, true, true, true, true, false, false] rfl rfl (one_of HT_.out (by kernel_rfl)) (by decide) (fun K hK => ?_)
                          refine goes_ Try.func23 (by kernel_rfl) rfl #[.agg #[.int .i64 ((rd_T26 l0 x54_3).f2.f0), .int .i64 ((rd_T26 l0 x54_3).f2.f1), .int .i64 ((rd_T26 l0 x54_3).f2.f2), .int .i64 ((rd_T26 l0 x54_3).f2.f3)], .agg #[.int .i64 ((rd_T26 l0 x54_3).f4.f0), .int .i64 ((rd_T26 l0 x54_3).f4.f1), .int .i64 ((rd_T26 l0 x54_3).f4.f2), .int .i64 ((rd_T26 l0 x54_3).f4.f3)]] (by rfl) rfl rfl (by (try simp only [List.map_toArray, List.map_cons, List.map_nil]); first | done | rfl | (simp only [List.length_drop, List.length_take]; rfl)) ?_
                          with_reducible refine (decoupageref02_Meet.calls k3 ((rd_T26 l0 x54_3).f2.f0) ((rd_T26 l0 x54_3).f2.f1) ((rd_T26 l0 x54_3).f2.f2) ((rd_T26 l0 x54_3).f2.f3) ((rd_T26 l0 x54_3).f4.f0) ((rd_T26 l0 x54_3).f4.f1) ((rd_T26 l0 x54_3).f4.f2) ((rd_T26 l0 x54_3).f4.f3) t181 t182 t183 t184 _ A38.out).mono ?_
                          rintro e w49 ⟨rfl, hb⟩
                          refine ⟨_, rfl, ?_⟩
                          have n0_ := Aside0.mk (below_step (by repeat (first | (with_reducible first | exact HB.out | apply below_alloc | apply pw_below_drewN | apply below_drew1) | exact HB.out)) hb)
                          clear HB
                          have HB := n0_
                          clear n0_
                          (try clear hb)
                          (try clear hb2)
                          (try clear hk)
                          (try clear hi)
                          refine hK.out _ _ ⟨((HB.out.cell (World.block_lt_of_cell? w _ hw170_0)).trans hw170_0), ((HB.out.cell (World.block_lt_of_cell? w _ hw170_1)).trans hw170_1), ((HB.out.cell (World.block_lt_of_cell? w _ hw170_2)).trans hw170_2), ((HB.out.cell (World.block_lt_of_cell? w _ hw170_3)).trans hw170_3), ((HB.out.cell (World.block_lt_of_cell? w _ hw170_4)).trans hw170_4), ((HB.out.cell (World.block_lt_of_cell? w _ hw170_5)).trans hw170_5), ((HB.out.cell (World.block_lt_of_cell? w _ hw170_6)).trans hw170_6), ((HB.out.cell (World.block_lt_of_cell? w _ hw170_7)).trans hw170_7), ((HB.out.cell (World.block_lt_of_cell? w _ hw170_8)).trans hw170_8), ((HB.out.cell (World.block_lt_of_cell? w _ hw170_9)).trans hw170_9), ((HB.out.cell (World.block_lt_of_cell? w _ hw170_10)).trans hw170_10), ((HB.out.cell (World.block_lt_of_cell? w _ hw170_11)).trans hw170_11), ((HB.out.cell (World.block_lt_of_cell? w _ hw170_12)).trans hw170_12), ((HB.out.cell (World.block_lt_of_cell? w _ hw170_13)).trans hw170_13), ((HB.out.cell (World.block_lt_of_cell? w _ hw170_14)).trans hw170_14), ((HB.out.cell (World.block_lt_of_cell? w _ hw172_0)).trans hw172_0), ((HB.out.cell (World.block_lt_of_cell? w _ hw172_1)).trans hw172_1), ((HB.out.cell (World.block_lt_of_cell? w _ hw172_2)).trans hw172_2), ((HB.out.cell (World.block_lt_of_cell? w _ hw172_3)).trans hw172_3), ((HB.out.cell (World.block_lt_of_cell? w _ hw172_4)).trans hw172_4), ((HB.out.cell (World.block_lt_of_cell? w _ hw172_5)).trans hw172_5), ((HB.out.cell (World.block_lt_of_cell? w _ hw172_6)).trans hw172_6), ((HB.out.cell (World.block_lt_of_cell? w _ hw172_7)).trans hw172_7), ((HB.out.cell (World.block_lt_of_cell? w _ hw172_8)).trans hw172_8), ((HB.out.cell (World.block_lt_of_cell? w _ hw172_9)).trans hw172_9), ((HB.out.cell (World.block_lt_of_cell? w _ hw172_10)).trans hw172_10), ((HB.out.cell (World.block_lt_of_cell? w _ hw172_11)).trans hw172_11), ((HB.out.cell (World.block_lt_of_cell? w _ hw172_12)).trans hw172_12), ((HB.out.cell (World.block_lt_of_cell? w _ hw172_13)).trans hw172_13), ((HB.out.cell (World.block_lt_of_cell? w _ hw172_14)).trans hw172_14), ((HB.out.cell (World.block_lt_of_cell? w _ hw174_0)).trans hw174_0), ((HB.out.cell (World.block_lt_of_cell? w _ hw174_1)).trans hw174_1), ((HB.out.cell (World.block_lt_of_cell? w _ hw174_2)).trans hw174_2), ((HB.out.cell (World.block_lt_of_cell? w _ hw174_3)).trans hw174_3), ((HB.out.cell (World.block_lt_of_cell? w _ hw174_4)).trans hw174_4), ((HB.out.cell (World.block_lt_of_cell? w _ hw174_5)).trans hw174_5), ((HB.out.cell (World.block_lt_of_cell? w _ hw174_6)).trans hw174_6), ((HB.out.cell (World.block_lt_of_cell? w _ hw174_7)).trans hw174_7), ((HB.out.cell (World.block_lt_of_cell? w _ hw174_8)).trans hw174_8), ((HB.out.cell (World.block_lt_of_cell? w _ hw174_9)).trans hw174_9), ((HB.out.cell (World.block_lt_of_cell? w _ hw174_10)).trans hw174_10), ((HB.out.cell (World.block_lt_of_cell? w _ hw174_11)).trans hw174_11), ((HB.out.cell (World.block_lt_of_cell? w _ hw174_12)).trans hw174_12), ((HB.out.cell (World.block_lt_of_cell? w _ hw174_13)).trans hw174_13), ((HB.out.cell (World.block_lt_of_cell? w _ hw174_14)).trans hw174_14), ((HB.out.cell (World.block_lt_of_cell? w _ hw179_0)).trans hw179_0), ((HB.out.cell (World.block_lt_of_cell? w _ hw179_1)).trans hw179_1), ((HB.out.cell (World.block_lt_of_cell? w _ hw179_2)).trans hw179_2), ((HB.out.cell (World.block_lt_of_cell? w _ hw179_3)).trans hw179_3), ((HB.out.cell (World.block_lt_of_cell? w _ hw179_4)).trans hw179_4), ((HB.out.cell (World.block_lt_of_cell? w _ hw179_5)).trans hw179_5), ((HB.out.cell (World.block_lt_of_cell? w _ hw179_6)).trans hw179_6), ((HB.out.cell (World.block_lt_of_cell? w _ hw179_7)).trans hw179_7), ((HB.out.cell (World.block_lt_of_cell? w _ hw179_8)).trans hw179_8), ((HB.out.cell (World.block_lt_of_cell? w _ hw179_9)).trans hw179_9), ((HB.out.cell (World.block_lt_of_cell? w _ hw179_10)).trans hw179_10), ((HB.out.cell (World.block_lt_of_cell? w _ hw179_11)).trans hw179_11), ((HB.out.cell (World.block_lt_of_cell? w _ hw179_12)).trans hw179_12), ((HB.out.cell (World.block_lt_of_cell? w _ hw179_13)).trans hw179_13), ((HB.out.cell (World.block_lt_of_cell? w _ hw179_14)).trans hw179_14), ((HB.out.cell (World.block_lt_of_cell? w _ hw180_0)).trans hw180_0), ((HB.out.cell (World.block_lt_of_cell? w _ hw180_1)).trans hw180_1), ((HB.out.cell (World.block_lt_of_cell? w _ hw180_2)).trans hw180_2), ((HB.out.cell (World.block_lt_of_cell? w _ hw180_3)).trans hw180_3), ((HB.out.cell (World.block_lt_of_cell? w _ hw180_4)).trans hw180_4), ((HB.out.cell (World.block_lt_of_cell? w _ hw180_5)).trans hw180_5), ((HB.out.cell (World.block_lt_of_cell? w _ hw180_6)).trans hw180_6), ((HB.out.cell (World.block_lt_of_cell? w _ hw180_7)).trans hw180_7), ((HB.out.cell (World.block_lt_of_cell? w _ hw180_8)).trans hw180_8), ((HB.out.cell (World.block_lt_of_cell? w _ hw180_9)).trans hw180_9), ((HB.out.cell (World.block_lt_of_cell? w _ hw180_10)).trans hw180_10), ((HB.out.cell (World.block_lt_of_cell? w _ hw180_11)).trans hw180_11), ((HB.out.cell (World.block_lt_of_cell? w _ hw180_12)).trans hw180_12), ((HB.out.cell (World.block_lt_of_cell? w _ hw180_13)).trans hw180_13), ((HB.out.cell (World.block_lt_of_cell? w _ hw180_14)).trans hw180_14)⟩ (fun hHeld => ?_)
                          clear hK K
                          refine norm_ (a' := ?_) ?_ ?_
                          rotate_left
                          · show Act.put _ (some 88) _ = _
                            simp only [Act.put, List.setIfInBounds_toArray, List.set_cons_zero, List.set_cons_succ, i64_w, i32_w]
                            rfl
                          by_cases c39 : (!(t175 == t181) || (!(t176 == t182) || (!(t177 == t183) || (!(t178 == t184))))) = true
                          · have H := HM.out
                            clear HM
                            rw [if_pos c39] at H
                            have c39b0 : (!(t175 == t181) || (!(t176 == t182) || (!(t177 == t183) || (!(t178 == t184))))) = true := c39
                            clear c39
                            obtain rfl := Option.some.inj H
                            refine pure_ (i := 32) (N := some 89) (v := ?_) (a' := ?_) #[true, true, true, true, true, true, true, true, true, true, true, true, true, true, true, true, true, true, true, true, true, true, true, true, true, true, true, true, true, true, true, true, true, false] rfl rfl (any_of HT_.out (by kernel_rfl)) (fun _ _ _ h => h) (Or.inl ⟨by rfl, ?_⟩) ?_ ?_
                            rotate_left
                            · intro w'
                              go_simp
                              with_reducible rfl
                            rotate_left
                            · simp only [Act.put, List.setIfInBounds_toArray, List.set_cons_zero, List.set_cons_succ, i64_w, i32_w]
                              rfl
                            refine pure_ (i := 33) (N := some 90) (v := ?_) (a' := ?_) #[true, true, true, true, true, true, true, true, true, true, true, true, true, true, true, true, true, true, true, true, true, true, true, true, true, true, true, true, true, true, true, true, true, true] rfl rfl (any_of HT_.out (by kernel_rfl)) (fun _ _ _ h => h) (Or.inl ⟨by rfl, ?_⟩) ?_ ?_
                            rotate_left
                            · intro w'
                              go_simp
                              with_reducible rfl
                            rotate_left
                            · simp only [Act.put, List.setIfInBounds_toArray, List.set_cons_zero, List.set_cons_succ, i64_w, i32_w]
                              rfl
                            refine done_ (done_of HT_.out (by kernel_rfl)) ?_
                            try go_wp2
                            go_ret
                            exact ⟨by first | rfl | (simp [errW_none, errW_some] <;> rfl) | (simp [*, errW_none, errW_some] <;> rfl), by repeat (first | (with_reducible first | exact HB.out | apply below_alloc | apply pw_below_drewN | apply below_drew1) | exact HB.out)⟩
                          · have H := HM.out
                            clear HM
                            rw [if_neg c39] at H
                            have c39b0 : (!(t175 == t181) || (!(t176 == t182) || (!(t177 == t183) || (!(t178 == t184))))) = false := by simpa using c39
                            clear c39
                            have H' := Aside0.mk H
                            clear H
                            refine pure_ (i := 32) (N := some 89) (v := ?_) (a' := ?_) #[true, true, true, true, true, true, true, true, true, true, true, true, true, true, true, true, true, true, true, true, true, true, true, true, true, true, true, true, true, true, true, true, true, false] rfl rfl (any_of HT_.out (by kernel_rfl)) (fun _ _ _ h => h) (Or.inl ⟨by rfl, ?_⟩) ?_ ?_
                            rotate_left
                            · intro w'
                              go_simp
                              with_reducible rfl
                            rotate_left
                            · simp only [Act.put, List.setIfInBounds_toArray, List.set_cons_zero, List.set_cons_succ, i64_w, i32_w]
                              rfl
                            refine pure_ (i := 33) (N := some 90) (v := ?_) (a' := ?_) #[true, true, true, true, true, true, true, true, true, true, true, true, true, true, true, true, true, true, true, true, true, true, true, true, true, true, true, true, true, true, true, true, true, true] rfl rfl (any_of HT_.out (by kernel_rfl)) (fun _ _ _ h => h) (Or.inl ⟨by rfl, ?_⟩) ?_ ?_
                            rotate_left
                            · intro w'
                              go_simp
                              with_reducible rfl
                            rotate_left
                            · simp only [Act.put, List.setIfInBounds_toArray, List.set_cons_zero, List.set_cons_succ, i64_w, i32_w]
                              rfl
                            refine done_ (done_of HT_.out (by kernel_rfl)) ?_
                            try go_wp2
                            go_roundg k3
                            case measure => have := HJ3.out; have := HJ13.out; have := HK3.out; omega
                            case rel => exact ⟨(wrap64 (x54_3 + 1)), (by first | rfl | (simp; done) | (simp [*]; done)), H', ⟨by have := HJ3.out; have := HJ13.out; have := HK3.out; omega⟩, ⟨by repeat (first | (with_reducible first | exact HB.out | apply below_alloc | apply pw_below_drewN | apply below_drew1) | exact HB.out)⟩⟩
                      · rw [if_neg c30] at H
                        exact absurd H (by simp)
                    · rw [if_neg c29] at H
                      exact absurd H (by simp)
                  · rw [if_neg c28] at H
                    have c28b0 : decide (x54_3 < (l0.length : Int)) = false := decide_eq_false c28
                    clear c28
                    obtain rfl := Option.some.inj H
                    go_wp2
                    go_ret
                    exact ⟨by first | rfl | (simp [errW_none, errW_some] <;> rfl) | (simp [*, errW_none, errW_some] <;> rfl), by repeat (first | (with_reducible first | exact HB.out | apply below_alloc | apply pw_below_drewN | apply below_drew1) | exact HB.out)⟩

end Go.Proofs.Ytipcledgblodjaa.POwnerTells
