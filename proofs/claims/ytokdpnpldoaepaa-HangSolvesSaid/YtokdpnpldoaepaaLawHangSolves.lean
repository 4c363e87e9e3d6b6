/- What is proved: 'HangSolves' (the law of that name): for every input the call returns true, and each argument reads afterwards as it read before. Conditions: none but the given row's own. -/
import Derived.Test.YtokdpnpldoaepaaRows
import Derived.Test.YtokdpnpldoaepaaHgM
import Derived.Test.YtokdpnpldoaepaaReads
import Derived.WalkKit
import Derived.ProofKit
import Derived.OpenShut
import Derived.ShutString
import Derived.ChangeOld
import Derived.Below
import Derived.SizedLaws
namespace Go.Proofs.Ytokdpnpldoaepaa.hangSolves
open Go.ChangeShapes Go.WideShapes Go.ChangeAt Go.RowKit Go.Proofs.Ytokdpnpldoaepaa.Reads Go.Proofs.Ytokdpnpldoaepaa.AskWords
set_option linter.unusedVariables false
theorem own : ownKnob Try.prog.godebug = none := by kernel_rfl
theorem laidOut : laidOutB Try.prog = true := by kernel_rfl
theorem o2 : Opens Try.prog 2 [isI64] := opens_i64 Try.underlying2 (by kernel_rfl)
theorem o4 : Opens Try.prog 4 [isBool] := opens_bool Try.underlying4 (by kernel_rfl)
theorem o23 : Opens Try.prog 23 [isBool, isI64] := opens_struct Try.underlying23 (by kernel_rfl) (fo_cons rfl rfl o4 (fo_last (f := _) rfl rfl (by rfl) o2) rfl)
theorem o57 : Opens Try.prog 57 [isI64, isBool, isI64, isBool, isI64, isBool, isI64, isBool, isI64, isBool, isI64, isI64, isI64, isI64, isI64, isBool, isBool, isI64, isI64] := opens_struct Try.underlying57 (by kernel_rfl) (fo_cons rfl rfl o2 (fo_cons rfl rfl o23 (fo_cons rfl rfl o23 (fo_cons rfl rfl o23 (fo_cons rfl rfl o23 (fo_cons rfl rfl o23 (fo_cons rfl rfl o2 (fo_cons rfl rfl o2 (fo_cons rfl rfl o2 (fo_cons rfl rfl o2 (fo_cons rfl rfl o4 (fo_cons rfl rfl o4 (fo_cons rfl rfl o2 (fo_last (f := _) rfl rfl (by rfl) o2) rfl) rfl) rfl) rfl) rfl) rfl) rfl) rfl) rfl) rfl) rfl) rfl) rfl)
set_option maxRecDepth 100000 in
theorem lifted (os : Os) (started : os.Started) (H : Type) (enc : TypeId × Value → H) :
    ReturnsInHanded {} Try.checked os 10 .any (Rows.hangSolvesSpec.pre6 enc Try.prog Try.f10 Rows.hangSolvesRow.domain false) (Rows.hangSolvesSpec.post enc Try.prog Try.f10 false true false false) := by
  refine returnsInHanded_of_change_sized (C := Try.checked) own started (by kernel_rfl) Try.func10
    (ChangeSpec.witness6 (enc := enc) (C := Try.checked) false ⟨#[], #[.agg #[.int .i64 0, .bool false, .int .i64 0, .bool false, .int .i64 0, .bool false, .int .i64 0, .bool false, .int .i64 0, .bool false, .int .i64 0, .int .i64 0, .int .i64 0, .int .i64 0, .int .i64 0, .bool false, .bool false, .int .i64 0, .int .i64 0]], []⟩ 8 (by kernel_rfl) (by kernel_rfl) (by kernel_rfl) (by kernel_rfl)) ?_
  intro W base args ds gs before hval0 hW hcnd hsz0 _
  have hval : ∀ (j : Nat) t v, Try.f10.params[j]? = some t → args[j]? = some v → Value.okWide Try.prog W .any base t v := hval0
  have hW' := hW
  obtain ⟨p, q, hA0, hV, rfl, hfz, hnd⟩ := hW
  have hA : DataW.TrodAll enc Try.prog W 0 (fun _ => true) true Try.f10.params.toList args.toList ds p := hA0
  rw [Try.params10] at hA hval
  obtain ⟨v0, vs0, d0, ds0, p0, q0, hargs, rfl, rfl, h0, r0⟩ := trodAll_cons hA
  obtain ⟨rfl, rfl, rfl⟩ := trodAll_nil r0
  obtain rfl : args = #[v0] := by cases args; simp_all
  obtain ⟨rfl, rfl⟩ := trodVars_none hV
  have k0 := h0
  have lt0 : ∀ x ∈ p0, x.block < W.heap.size := by obtain ⟨m, hm⟩ := k0; exact DataW.trod_lt m _ _ _ hm
  obtain ⟨cs0_0, rfl, f0_0⟩ := arg_struct Try.underlying57 o57 (hval 0 57 v0 rfl rfl) h0
  obtain ⟨_, cs0_1, rfl, ⟨a0_0, rfl, b0_0⟩, f0_1⟩ := fits_cons f0_0
  obtain ⟨_, cs0_2, rfl, ⟨a0_1, rfl⟩, f0_2⟩ := fits_cons f0_1
  obtain ⟨_, cs0_3, rfl, ⟨a0_2, rfl, b0_2⟩, f0_3⟩ := fits_cons f0_2
  obtain ⟨_, cs0_4, rfl, ⟨a0_3, rfl⟩, f0_4⟩ := fits_cons f0_3
  obtain ⟨_, cs0_5, rfl, ⟨a0_4, rfl, b0_4⟩, f0_5⟩ := fits_cons f0_4
  obtain ⟨_, cs0_6, rfl, ⟨a0_5, rfl⟩, f0_6⟩ := fits_cons f0_5
  obtain ⟨_, cs0_7, rfl, ⟨a0_6, rfl, b0_6⟩, f0_7⟩ := fits_cons f0_6
  obtain ⟨_, cs0_8, rfl, ⟨a0_7, rfl⟩, f0_8⟩ := fits_cons f0_7
  obtain ⟨_, cs0_9, rfl, ⟨a0_8, rfl, b0_8⟩, f0_9⟩ := fits_cons f0_8
  obtain ⟨_, cs0_10, rfl, ⟨a0_9, rfl⟩, f0_10⟩ := fits_cons f0_9
  obtain ⟨_, cs0_11, rfl, ⟨a0_10, rfl, b0_10⟩, f0_11⟩ := fits_cons f0_10
  obtain ⟨_, cs0_12, rfl, ⟨a0_11, rfl, b0_11⟩, f0_12⟩ := fits_cons f0_11
  obtain ⟨_, cs0_13, rfl, ⟨a0_12, rfl, b0_12⟩, f0_13⟩ := fits_cons f0_12
  obtain ⟨_, cs0_14, rfl, ⟨a0_13, rfl, b0_13⟩, f0_14⟩ := fits_cons f0_13
  obtain ⟨_, cs0_15, rfl, ⟨a0_14, rfl, b0_14⟩, f0_15⟩ := fits_cons f0_14
  obtain ⟨_, cs0_16, rfl, ⟨a0_15, rfl⟩, f0_16⟩ := fits_cons f0_15
  obtain ⟨_, cs0_17, rfl, ⟨a0_16, rfl⟩, f0_17⟩ := fits_cons f0_16
  obtain ⟨_, cs0_18, rfl, ⟨a0_17, rfl, b0_17⟩, f0_18⟩ := fits_cons f0_17
  obtain ⟨_, cs0_19, rfl, ⟨a0_18, rfl, b0_18⟩, f0_19⟩ := fits_cons f0_18
  obtain rfl := fits_nil f0_19
  clear hA0 hval0 hsz0
  have hcall : Calls Try.prog 10 #[.agg #[.int .i64 a0_0, .bool a0_1, .int .i64 a0_2, .bool a0_3, .int .i64 a0_4, .bool a0_5, .int .i64 a0_6, .bool a0_7, .int .i64 a0_8, .bool a0_9, .int .i64 a0_10, .int .i64 a0_11, .int .i64 a0_12, .int .i64 a0_13, .int .i64 a0_14, .bool a0_15, .bool a0_16, .int .i64 a0_17, .int .i64 a0_18]] W (IsTrue W) := by
    apply HgM.HangSolves_any <;> assumption
  refine hcall.mono fun e W' ⟨he, bel⟩ => ?_
  subst he
  exact ⟨_, rfl, _, _, _, [], _, [], hW', trodAll_mk1 (shut_bool Try.underlying4 _), (trodAll_cons_mk (Below.trod laidOut (by kernel_rfl) (of_decide_eq_true (by kernel_rfl)) k0 bel lt0) trodAll_mk0), rfl, bel.frame _, fun h => by cases h⟩
theorem over : Rows.hangSolvesRow.holds Try.pinned (OpenSpec.ofChange Rows.hangSolvesSpec) :=
  OpenClaim.holds_of_wide 10 Try.f10 rfl rfl rfl rfl rfl rfl rfl ⟨rfl, rfl, rfl, rfl, rfl⟩ rfl rfl rfl rfl rfl (by kernel_rfl) Try.func10 (by kernel_rfl)
    (of_decide_eq_true (by kernel_rfl)) (by unfold Func.isWrapper; first | (rw [if_pos (by decide +kernel)]; kernel_rfl) | (rw [if_neg (by decide +kernel)]; exact ⟨rfl, rfl⟩))
    (fun os started H enc _ => lifted os started H enc)
theorem proved : Rows.HangSolvesSaid := over
end Go.Proofs.Ytokdpnpldoaepaa.hangSolves
namespace Go.Proofs.Ytokdpnpldoaepaa
/-- The row, under a short name, for the claim. -/
theorem hangSolves_holds : Rows.HangSolvesSaid := hangSolves.proved
#print axioms hangSolves_holds
end Go.Proofs.Ytokdpnpldoaepaa
