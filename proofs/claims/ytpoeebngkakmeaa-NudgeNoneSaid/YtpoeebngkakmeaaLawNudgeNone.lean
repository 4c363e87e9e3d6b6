/- What is proved: 'NudgeNone' (the law of that name): for every input the call returns true, and each argument reads afterwards as it read before. Conditions: none but the given row's own. -/
import Derived.Test.YtpoeebngkakmeaaRows
import Derived.Test.YtpoeebngkakmeaaNuC
import Derived.Test.YtpoeebngkakmeaaReads
import Derived.WalkKit
import Derived.ProofKit
import Derived.OpenShut
import Derived.ShutString
import Derived.ChangeOld
import Derived.Below
import Derived.SizedLaws
namespace Go.Proofs.Ytpoeebngkakmeaa.nudgeNone
open Go.ChangeShapes Go.WideShapes Go.ChangeAt Go.RowKit Go.Proofs.Ytpoeebngkakmeaa.Reads Go.Proofs.Ytpoeebngkakmeaa.AskWords
set_option linter.unusedVariables false
theorem own : ownKnob Try.prog.godebug = none := by kernel_rfl
theorem laidOut : laidOutB Try.prog = true := by kernel_rfl
theorem o4 : Opens Try.prog 4 [isBool] := opens_bool Try.underlying4 (by kernel_rfl)
theorem o3 : Opens Try.prog 3 [isI64] := opens_i64 Try.underlying3 (by kernel_rfl)
theorem o2 : Opens Try.prog 2 [isI64] := opens_i64 Try.underlying2 (by kernel_rfl)
theorem o70 : Opens Try.prog 70 [isI64, isI64] := opens_struct Try.underlying70 (by kernel_rfl) (fo_cons rfl rfl o3 (fo_last (f := _) rfl rfl (by rfl) o2) rfl)
theorem o71 : Opens Try.prog 71 [isI64, isI64, isI64, isI64, isI64, isI64, isI64, isI64] := opens_arr (n := 4) Try.underlying71 (by kernel_rfl) o70 rfl
theorem o72 : Opens Try.prog 72 [isI64, isI64, isI64, isI64] := opens_arr (n := 4) Try.underlying72 (by kernel_rfl) o2 rfl
theorem o74 : Opens Try.prog 74 [isBool, isI64, isI64, isI64, isI64, isI64, isI64, isI64, isI64, isI64, isI64, isI64, isI64, isI64, isI64, isI64, isI64, isI64, isI64, isI64, isI64, isI64, isI64, isI64, isI64, isI64, isI64, isI64, isI64, isI64, isI64, isI64, isI64, isI64, isI64, isI64, isI64, isI64, isI64, isI64, isI64, isI64, isBool, isBool, isI64, isBool, isI64, isI64] := opens_struct Try.underlying74 (by kernel_rfl) (fo_cons rfl rfl o4 (fo_cons rfl rfl o3 (fo_cons rfl rfl o71 (fo_cons rfl rfl o70 (fo_cons rfl rfl o70 (fo_cons rfl rfl o70 (fo_cons rfl rfl o70 (fo_cons rfl rfl o70 (fo_cons rfl rfl o70 (fo_cons rfl rfl o71 (fo_cons rfl rfl o71 (fo_cons rfl rfl o72 (fo_cons rfl rfl o4 (fo_cons rfl rfl o4 (fo_cons rfl rfl o2 (fo_cons rfl rfl o4 (fo_cons rfl rfl o2 (fo_last (f := _) rfl rfl (by rfl) o2) rfl) rfl) rfl) rfl) rfl) rfl) rfl) rfl) rfl) rfl) rfl) rfl) rfl) rfl) rfl) rfl) rfl)
theorem o23 : Opens Try.prog 23 [isBool, isI64] := opens_struct Try.underlying23 (by kernel_rfl) (fo_cons rfl rfl o4 (fo_last (f := _) rfl rfl (by rfl) o2) rfl)
set_option maxRecDepth 100000 in
theorem lifted (os : Os) (started : os.Started) (H : Type) (enc : TypeId × Value → H) :
    ReturnsInHanded {} Try.checked os 12 .any (Rows.nudgeNoneSpec.pre6 enc Try.prog Try.f12 Rows.nudgeNoneRow.domain false) (Rows.nudgeNoneSpec.post enc Try.prog Try.f12 false true false false) := by
  refine returnsInHanded_of_change_sized (C := Try.checked) own started (by kernel_rfl) Try.func12
    (ChangeSpec.witness6 (enc := enc) (C := Try.checked) false ⟨#[], #[.agg #[.bool false, .int .i64 0, .int .i64 0, .int .i64 0, .int .i64 0, .int .i64 0, .int .i64 0, .int .i64 0, .int .i64 0, .int .i64 0, .int .i64 0, .int .i64 0, .int .i64 0, .int .i64 0, .int .i64 0, .int .i64 0, .int .i64 0, .int .i64 0, .int .i64 0, .int .i64 0, .int .i64 0, .int .i64 0, .int .i64 0, .int .i64 0, .int .i64 0, .int .i64 0, .int .i64 0, .int .i64 0, .int .i64 0, .int .i64 0, .int .i64 0, .int .i64 0, .int .i64 0, .int .i64 0, .int .i64 0, .int .i64 0, .int .i64 0, .int .i64 0, .int .i64 0, .int .i64 0, .int .i64 0, .int .i64 0, .bool false, .bool false, .int .i64 0, .bool false, .int .i64 0, .int .i64 0], .int .i64 0, .agg #[.bool false, .int .i64 0], .bool false], []⟩ 8 (by kernel_rfl) (by kernel_rfl) (by kernel_rfl) (by kernel_rfl)) ?_
  intro W base args ds gs before hval0 hW hcnd hsz0 _
  have hval : ∀ (j : Nat) t v, Try.f12.params[j]? = some t → args[j]? = some v → Value.okWide Try.prog W .any base t v := hval0
  have hW' := hW
  obtain ⟨p, q, hA0, hV, rfl, hfz, hnd⟩ := hW
  have hA : DataW.TrodAll enc Try.prog W 0 (fun _ => true) true Try.f12.params.toList args.toList ds p := hA0
  rw [Try.params12] at hA hval
  obtain ⟨v0, vs0, d0, ds0, p0, q0, hargs, rfl, rfl, h0, r0⟩ := trodAll_cons hA
  obtain ⟨v1, vs1, d1, ds1, p1, q1, rfl, rfl, rfl, h1, r1⟩ := trodAll_cons r0
  obtain ⟨v2, vs2, d2, ds2, p2, q2, rfl, rfl, rfl, h2, r2⟩ := trodAll_cons r1
  obtain ⟨v3, vs3, d3, ds3, p3, q3, rfl, rfl, rfl, h3, r3⟩ := trodAll_cons r2
  obtain ⟨rfl, rfl, rfl⟩ := trodAll_nil r3
  obtain rfl : args = #[v0, v1, v2, v3] := by cases args; simp_all
  obtain ⟨rfl, rfl⟩ := trodVars_none hV
  have k0 := h0
  have lt0 : ∀ x ∈ p0, x.block < W.heap.size := by obtain ⟨m, hm⟩ := k0; exact DataW.trod_lt m _ _ _ hm
  have k1 := h1
  have lt1 : ∀ x ∈ p1, x.block < W.heap.size := by obtain ⟨m, hm⟩ := k1; exact DataW.trod_lt m _ _ _ hm
  have k2 := h2
  have lt2 : ∀ x ∈ p2, x.block < W.heap.size := by obtain ⟨m, hm⟩ := k2; exact DataW.trod_lt m _ _ _ hm
  have k3 := h3
  have lt3 : ∀ x ∈ p3, x.block < W.heap.size := by obtain ⟨m, hm⟩ := k3; exact DataW.trod_lt m _ _ _ hm
  obtain ⟨cs0_0, rfl, f0_0⟩ := arg_struct Try.underlying74 o74 (hval 0 74 v0 rfl rfl) h0
  obtain ⟨_, cs0_1, rfl, ⟨a0_0, rfl⟩, f0_1⟩ := fits_cons f0_0
  obtain ⟨_, cs0_2, rfl, ⟨a0_1, rfl, b0_1⟩, f0_2⟩ := fits_cons f0_1
  obtain ⟨_, cs0_3, rfl, ⟨a0_2, rfl, b0_2⟩, f0_3⟩ := fits_cons f0_2
  obtain ⟨_, cs0_4, rfl, ⟨a0_3, rfl, b0_3⟩, f0_4⟩ := fits_cons f0_3
  obtain ⟨_, cs0_5, rfl, ⟨a0_4, rfl, b0_4⟩, f0_5⟩ := fits_cons f0_4
  obtain ⟨_, cs0_6, rfl, ⟨a0_5, rfl, b0_5⟩, f0_6⟩ := fits_cons f0_5
  obtain ⟨_, cs0_7, rfl, ⟨a0_6, rfl, b0_6⟩, f0_7⟩ := fits_cons f0_6
  obtain ⟨_, cs0_8, rfl, ⟨a0_7, rfl, b0_7⟩, f0_8⟩ := fits_cons f0_7
  obtain ⟨_, cs0_9, rfl, ⟨a0_8, rfl, b0_8⟩, f0_9⟩ := fits_cons f0_8
  obtain ⟨_, cs0_10, rfl, ⟨a0_9, rfl, b0_9⟩, f0_10⟩ := fits_cons f0_9
  obtain ⟨_, cs0_11, rfl, ⟨a0_10, rfl, b0_10⟩, f0_11⟩ := fits_cons f0_10
  obtain ⟨_, cs0_12, rfl, ⟨a0_11, rfl, b0_11⟩, f0_12⟩ := fits_cons f0_11
  obtain ⟨_, cs0_13, rfl, ⟨a0_12, rfl, b0_12⟩, f0_13⟩ := fits_cons f0_12
  obtain ⟨_, cs0_14, rfl, ⟨a0_13, rfl, b0_13⟩, f0_14⟩ := fits_cons f0_13
  obtain ⟨_, cs0_15, rfl, ⟨a0_14, rfl, b0_14⟩, f0_15⟩ := fits_cons f0_14
  obtain ⟨_, cs0_16, rfl, ⟨a0_15, rfl, b0_15⟩, f0_16⟩ := fits_cons f0_15
  obtain ⟨_, cs0_17, rfl, ⟨a0_16, rfl, b0_16⟩, f0_17⟩ := fits_cons f0_16
  obtain ⟨_, cs0_18, rfl, ⟨a0_17, rfl, b0_17⟩, f0_18⟩ := fits_cons f0_17
  obtain ⟨_, cs0_19, rfl, ⟨a0_18, rfl, b0_18⟩, f0_19⟩ := fits_cons f0_18
  obtain ⟨_, cs0_20, rfl, ⟨a0_19, rfl, b0_19⟩, f0_20⟩ := fits_cons f0_19
  obtain ⟨_, cs0_21, rfl, ⟨a0_20, rfl, b0_20⟩, f0_21⟩ := fits_cons f0_20
  obtain ⟨_, cs0_22, rfl, ⟨a0_21, rfl, b0_21⟩, f0_22⟩ := fits_cons f0_21
  obtain ⟨_, cs0_23, rfl, ⟨a0_22, rfl, b0_22⟩, f0_23⟩ := fits_cons f0_22
  obtain ⟨_, cs0_24, rfl, ⟨a0_23, rfl, b0_23⟩, f0_24⟩ := fits_cons f0_23
  obtain ⟨_, cs0_25, rfl, ⟨a0_24, rfl, b0_24⟩, f0_25⟩ := fits_cons f0_24
  obtain ⟨_, cs0_26, rfl, ⟨a0_25, rfl, b0_25⟩, f0_26⟩ := fits_cons f0_25
  obtain ⟨_, cs0_27, rfl, ⟨a0_26, rfl, b0_26⟩, f0_27⟩ := fits_cons f0_26
  obtain ⟨_, cs0_28, rfl, ⟨a0_27, rfl, b0_27⟩, f0_28⟩ := fits_cons f0_27
  obtain ⟨_, cs0_29, rfl, ⟨a0_28, rfl, b0_28⟩, f0_29⟩ := fits_cons f0_28
  obtain ⟨_, cs0_30, rfl, ⟨a0_29, rfl, b0_29⟩, f0_30⟩ := fits_cons f0_29
  obtain ⟨_, cs0_31, rfl, ⟨a0_30, rfl, b0_30⟩, f0_31⟩ := fits_cons f0_30
  obtain ⟨_, cs0_32, rfl, ⟨a0_31, rfl, b0_31⟩, f0_32⟩ := fits_cons f0_31
  obtain ⟨_, cs0_33, rfl, ⟨a0_32, rfl, b0_32⟩, f0_33⟩ := fits_cons f0_32
  obtain ⟨_, cs0_34, rfl, ⟨a0_33, rfl, b0_33⟩, f0_34⟩ := fits_cons f0_33
  obtain ⟨_, cs0_35, rfl, ⟨a0_34, rfl, b0_34⟩, f0_35⟩ := fits_cons f0_34
  obtain ⟨_, cs0_36, rfl, ⟨a0_35, rfl, b0_35⟩, f0_36⟩ := fits_cons f0_35
  obtain ⟨_, cs0_37, rfl, ⟨a0_36, rfl, b0_36⟩, f0_37⟩ := fits_cons f0_36
  obtain ⟨_, cs0_38, rfl, ⟨a0_37, rfl, b0_37⟩, f0_38⟩ := fits_cons f0_37
  obtain ⟨_, cs0_39, rfl, ⟨a0_38, rfl, b0_38⟩, f0_39⟩ := fits_cons f0_38
  obtain ⟨_, cs0_40, rfl, ⟨a0_39, rfl, b0_39⟩, f0_40⟩ := fits_cons f0_39
  obtain ⟨_, cs0_41, rfl, ⟨a0_40, rfl, b0_40⟩, f0_41⟩ := fits_cons f0_40
  obtain ⟨_, cs0_42, rfl, ⟨a0_41, rfl, b0_41⟩, f0_42⟩ := fits_cons f0_41
  obtain ⟨_, cs0_43, rfl, ⟨a0_42, rfl⟩, f0_43⟩ := fits_cons f0_42
  obtain ⟨_, cs0_44, rfl, ⟨a0_43, rfl⟩, f0_44⟩ := fits_cons f0_43
  obtain ⟨_, cs0_45, rfl, ⟨a0_44, rfl, b0_44⟩, f0_45⟩ := fits_cons f0_44
  obtain ⟨_, cs0_46, rfl, ⟨a0_45, rfl⟩, f0_46⟩ := fits_cons f0_45
  obtain ⟨_, cs0_47, rfl, ⟨a0_46, rfl, b0_46⟩, f0_47⟩ := fits_cons f0_46
  obtain ⟨_, cs0_48, rfl, ⟨a0_47, rfl, b0_47⟩, f0_48⟩ := fits_cons f0_47
  obtain rfl := fits_nil f0_48
  obtain ⟨a1, rfl, rfl, rfl, w1⟩ := open_int Try.underlying2 (hval 1 2 v1 rfl rfl) h1
  have b1 : I64 a1 := bounds_i64 w1
  obtain ⟨cs2_0, rfl, f2_0⟩ := arg_struct Try.underlying23 o23 (hval 2 23 v2 rfl rfl) h2
  obtain ⟨_, cs2_1, rfl, ⟨a2_0, rfl⟩, f2_1⟩ := fits_cons f2_0
  obtain ⟨_, cs2_2, rfl, ⟨a2_1, rfl, b2_1⟩, f2_2⟩ := fits_cons f2_1
  obtain rfl := fits_nil f2_2
  obtain ⟨a3, rfl, rfl, rfl⟩ := open_bool Try.underlying4 (hval 3 4 v3 rfl rfl) h3
  clear hA0 hval0 hsz0
  have hcall : Calls Try.prog 12 #[.agg #[.bool a0_0, .int .i64 a0_1, .int .i64 a0_2, .int .i64 a0_3, .int .i64 a0_4, .int .i64 a0_5, .int .i64 a0_6, .int .i64 a0_7, .int .i64 a0_8, .int .i64 a0_9, .int .i64 a0_10, .int .i64 a0_11, .int .i64 a0_12, .int .i64 a0_13, .int .i64 a0_14, .int .i64 a0_15, .int .i64 a0_16, .int .i64 a0_17, .int .i64 a0_18, .int .i64 a0_19, .int .i64 a0_20, .int .i64 a0_21, .int .i64 a0_22, .int .i64 a0_23, .int .i64 a0_24, .int .i64 a0_25, .int .i64 a0_26, .int .i64 a0_27, .int .i64 a0_28, .int .i64 a0_29, .int .i64 a0_30, .int .i64 a0_31, .int .i64 a0_32, .int .i64 a0_33, .int .i64 a0_34, .int .i64 a0_35, .int .i64 a0_36, .int .i64 a0_37, .int .i64 a0_38, .int .i64 a0_39, .int .i64 a0_40, .int .i64 a0_41, .bool a0_42, .bool a0_43, .int .i64 a0_44, .bool a0_45, .int .i64 a0_46, .int .i64 a0_47], .int .i64 a1, .agg #[.bool a2_0, .int .i64 a2_1], .bool a3] W (IsTrue W) := by
    apply Nu.NudgeNone_any <;> assumption
  refine hcall.mono fun e W' ⟨he, bel⟩ => ?_
  subst he
  exact ⟨_, rfl, _, _, _, [], _, [], hW', trodAll_mk1 (shut_bool Try.underlying4 _), (trodAll_cons_mk (Below.trod laidOut (by kernel_rfl) (of_decide_eq_true (by kernel_rfl)) k0 bel lt0) (trodAll_cons_mk (Below.trod laidOut (by kernel_rfl) (of_decide_eq_true (by kernel_rfl)) k1 bel lt1) (trodAll_cons_mk (Below.trod laidOut (by kernel_rfl) (of_decide_eq_true (by kernel_rfl)) k2 bel lt2) (trodAll_cons_mk (Below.trod laidOut (by kernel_rfl) (of_decide_eq_true (by kernel_rfl)) k3 bel lt3) trodAll_mk0)))), rfl, bel.frame _, fun h => by cases h⟩
theorem over : Rows.nudgeNoneRow.holds Try.pinned (OpenSpec.ofChange Rows.nudgeNoneSpec) :=
  OpenClaim.holds_of_wide 12 Try.f12 rfl rfl rfl rfl rfl rfl rfl ⟨rfl, rfl, rfl, rfl, rfl⟩ rfl rfl rfl rfl rfl (by kernel_rfl) Try.func12 (by kernel_rfl)
    (of_decide_eq_true (by kernel_rfl)) (by unfold Func.isWrapper; first | (rw [if_pos (by decide +kernel)]; kernel_rfl) | (rw [if_neg (by decide +kernel)]; exact ⟨rfl, rfl⟩))
    (fun os started H enc _ => lifted os started H enc)
theorem proved : Rows.NudgeNoneSaid := over
end Go.Proofs.Ytpoeebngkakmeaa.nudgeNone
namespace Go.Proofs.Ytpoeebngkakmeaa
/-- The row, under a short name, for the claim. -/
theorem nudgeNone_holds : Rows.NudgeNoneSaid := nudgeNone.proved
#print axioms nudgeNone_holds
end Go.Proofs.Ytpoeebngkakmeaa
