/- What is proved: 'SizeSides' (the law of that name): for every input the call returns true, and each argument reads afterwards as it read before. Conditions: none but the given row's own. -/
import Derived.Test.YtpoeebngkakmeaaRows
import Derived.Test.YtpoeebngkakmeaaSzL
import Derived.Test.YtpoeebngkakmeaaReads
import Derived.WalkKit
import Derived.ProofKit
import Derived.OpenShut
import Derived.ShutString
import Derived.ChangeOld
import Derived.Below
import Derived.SizedLaws
namespace Go.Proofs.Ytpoeebngkakmeaa.sizeSides
open Go.ChangeShapes Go.WideShapes Go.ChangeAt Go.RowKit Go.Proofs.Ytpoeebngkakmeaa.Reads Go.Proofs.Ytpoeebngkakmeaa.AskWords
set_option linter.unusedVariables false
theorem own : ownKnob Try.prog.godebug = none := by kernel_rfl
theorem laidOut : laidOutB Try.prog = true := by kernel_rfl
theorem o3 : Opens Try.prog 3 [isI64] := opens_i64 Try.underlying3 (by kernel_rfl)
theorem o2 : Opens Try.prog 2 [isI64] := opens_i64 Try.underlying2 (by kernel_rfl)
theorem o70 : Opens Try.prog 70 [isI64, isI64] := opens_struct Try.underlying70 (by kernel_rfl) (fo_cons rfl rfl o3 (fo_last (f := _) rfl rfl (by rfl) o2) rfl)
theorem o71 : Opens Try.prog 71 [isI64, isI64, isI64, isI64, isI64, isI64, isI64, isI64] := opens_arr (n := 4) Try.underlying71 (by kernel_rfl) o70 rfl
set_option maxRecDepth 100000 in
theorem lifted (os : Os) (started : os.Started) (H : Type) (enc : TypeId × Value → H) :
    ReturnsInHanded {} Try.checked os 14 .any (Rows.sizeSidesSpec.pre6 enc Try.prog Try.f14 Rows.sizeSidesRow.domain false) (Rows.sizeSidesSpec.post enc Try.prog Try.f14 false true false false) := by
  refine returnsInHanded_of_change_sized (C := Try.checked) own started (by kernel_rfl) Try.func14
    (ChangeSpec.witness6 (enc := enc) (C := Try.checked) false ⟨#[], #[.agg #[.int .i64 0, .int .i64 0, .int .i64 0, .int .i64 0, .int .i64 0, .int .i64 0, .int .i64 0, .int .i64 0], .int .i64 0], []⟩ 8 (by kernel_rfl) (by kernel_rfl) (by kernel_rfl) (by kernel_rfl)) ?_
  intro W base args ds gs before hval0 hW hcnd hsz0 _
  have hval : ∀ (j : Nat) t v, Try.f14.params[j]? = some t → args[j]? = some v → Value.okWide Try.prog W .any base t v := hval0
  have hW' := hW
  obtain ⟨p, q, hA0, hV, rfl, hfz, hnd⟩ := hW
  have hA : DataW.TrodAll enc Try.prog W 0 (fun _ => true) true Try.f14.params.toList args.toList ds p := hA0
  rw [Try.params14] at hA hval
  obtain ⟨v0, vs0, d0, ds0, p0, q0, hargs, rfl, rfl, h0, r0⟩ := trodAll_cons hA
  obtain ⟨v1, vs1, d1, ds1, p1, q1, rfl, rfl, rfl, h1, r1⟩ := trodAll_cons r0
  obtain ⟨rfl, rfl, rfl⟩ := trodAll_nil r1
  obtain rfl : args = #[v0, v1] := by cases args; simp_all
  obtain ⟨rfl, rfl⟩ := trodVars_none hV
  have k0 := h0
  have lt0 : ∀ x ∈ p0, x.block < W.heap.size := by obtain ⟨m, hm⟩ := k0; exact DataW.trod_lt m _ _ _ hm
  have k1 := h1
  have lt1 : ∀ x ∈ p1, x.block < W.heap.size := by obtain ⟨m, hm⟩ := k1; exact DataW.trod_lt m _ _ _ hm
  obtain ⟨cs0_0, rfl, f0_0⟩ := arg_array Try.underlying71 o71 (hval 0 71 v0 rfl rfl) h0
  obtain ⟨_, cs0_1, rfl, ⟨a0_0, rfl, b0_0⟩, f0_1⟩ := fits_cons f0_0
  obtain ⟨_, cs0_2, rfl, ⟨a0_1, rfl, b0_1⟩, f0_2⟩ := fits_cons f0_1
  obtain ⟨_, cs0_3, rfl, ⟨a0_2, rfl, b0_2⟩, f0_3⟩ := fits_cons f0_2
  obtain ⟨_, cs0_4, rfl, ⟨a0_3, rfl, b0_3⟩, f0_4⟩ := fits_cons f0_3
  obtain ⟨_, cs0_5, rfl, ⟨a0_4, rfl, b0_4⟩, f0_5⟩ := fits_cons f0_4
  obtain ⟨_, cs0_6, rfl, ⟨a0_5, rfl, b0_5⟩, f0_6⟩ := fits_cons f0_5
  obtain ⟨_, cs0_7, rfl, ⟨a0_6, rfl, b0_6⟩, f0_7⟩ := fits_cons f0_6
  obtain ⟨_, cs0_8, rfl, ⟨a0_7, rfl, b0_7⟩, f0_8⟩ := fits_cons f0_7
  obtain rfl := fits_nil f0_8
  obtain ⟨a1, rfl, rfl, rfl, w1⟩ := open_int Try.underlying2 (hval 1 2 v1 rfl rfl) h1
  have b1 : I64 a1 := bounds_i64 w1
  clear hA0 hval0 hsz0
  have hcall : Calls Try.prog 14 #[.agg #[.int .i64 a0_0, .int .i64 a0_1, .int .i64 a0_2, .int .i64 a0_3, .int .i64 a0_4, .int .i64 a0_5, .int .i64 a0_6, .int .i64 a0_7], .int .i64 a1] W (IsTrue W) := by
    apply SzL.SizeSides_any <;> assumption
  refine hcall.mono fun e W' ⟨he, bel⟩ => ?_
  subst he
  exact ⟨_, rfl, _, _, _, [], _, [], hW', trodAll_mk1 (shut_bool Try.underlying4 _), (trodAll_cons_mk (Below.trod laidOut (by kernel_rfl) (of_decide_eq_true (by kernel_rfl)) k0 bel lt0) (trodAll_cons_mk (Below.trod laidOut (by kernel_rfl) (of_decide_eq_true (by kernel_rfl)) k1 bel lt1) trodAll_mk0)), rfl, bel.frame _, fun h => by cases h⟩
theorem over : Rows.sizeSidesRow.holds Try.pinned (OpenSpec.ofChange Rows.sizeSidesSpec) :=
  OpenClaim.holds_of_wide 14 Try.f14 rfl rfl rfl rfl rfl rfl rfl ⟨rfl, rfl, rfl, rfl, rfl⟩ rfl rfl rfl rfl rfl (by kernel_rfl) Try.func14 (by kernel_rfl)
    (of_decide_eq_true (by kernel_rfl)) (by unfold Func.isWrapper; first | (rw [if_pos (by decide +kernel)]; kernel_rfl) | (rw [if_neg (by decide +kernel)]; exact ⟨rfl, rfl⟩))
    (fun os started H enc _ => lifted os started H enc)
theorem proved : Rows.SizeSidesSaid := over
end Go.Proofs.Ytpoeebngkakmeaa.sizeSides
namespace Go.Proofs.Ytpoeebngkakmeaa
/-- The row, under a short name, for the claim. -/
theorem sizeSides_holds : Rows.SizeSidesSaid := sizeSides.proved
#print axioms sizeSides_holds
end Go.Proofs.Ytpoeebngkakmeaa
