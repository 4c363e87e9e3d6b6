/- What is proved: 'SizeOr' (the law of that name): for every input the call returns true, and each argument reads afterwards as it read before. Conditions: none but the given row's own. -/
import Derived.Test.YtpoeebngkakmeaaRows
import Derived.Test.YtpoeebngkakmeaaPSizeOrx
import Derived.Test.YtpoeebngkakmeaaPureSizeOr
import Derived.Test.YtpoeebngkakmeaaOpens
import Derived.WalkKit
import Derived.ProofKit
import Derived.OpenShut
import Derived.ShutString
import Derived.ChangeOld
import Derived.Below
import Derived.SizedLaws
namespace Go.Proofs.Ytpoeebngkakmeaa.sizeOr
open Go.ChangeShapes Go.WideShapes Go.ChangeAt Go.RowKit Go.Proofs.Ytpoeebngkakmeaa.Opens Go.Proofs.YtpoeebngkakmeaaW.PrintWords
set_option linter.unusedVariables false
theorem own : ownKnob Try.prog.godebug = none := by kernel_rfl
theorem laidOut : laidOutB Try.prog = true := by kernel_rfl
theorem o4 : Opens Try.prog 4 Kd.bool (fun _ => True) := opens_bool Try.underlying4 (by kernel_rfl)
theorem o2 : Opens Try.prog 2 (Kd.int .i64) I64 := opens_i64 Try.underlying2 (by kernel_rfl)
instance : Inhabited Pure.S23 := ⟨Pure.z23⟩
theorem o23 : Opens Try.prog 23 Pure.k23 Pure.Q23 := opens_struct (g := (fun y => (⟨y.1, y.2⟩ : Pure.S23))) Try.underlying23 (by kernel_rfl) (fun _ => rfl) (fo_cons rfl rfl o4 (fo_last (f := _) rfl rfl (by rfl) o2))
set_option maxRecDepth 100000 in
theorem lifted (os : Os) (started : os.Started) (H : Type) (enc : TypeId × Value → H) :
    ReturnsInHanded {} Try.checked os 9 .any (Rows.sizeOrSpec.pre6 enc Try.prog Try.f9 Rows.sizeOrRow.domain false) (Rows.sizeOrSpec.post enc Try.prog Try.f9 false true false false) := by
  refine returnsInHanded_of_change_sized (C := Try.checked) own started (by kernel_rfl) Try.func9
    (ChangeSpec.witness6 (enc := enc) (C := Try.checked) false ⟨#[], #[.agg #[.bool false, .int .i64 0], .int .i64 0], []⟩ 8 (by kernel_rfl) (by kernel_rfl) (by kernel_rfl) (by kernel_rfl)) ?_
  intro W base args ds gs before hval0 hW hcnd hsz0 _
  have hval : ∀ (j : Nat) t v, Try.f9.params[j]? = some t → args[j]? = some v → Value.okWide Try.prog W .any base t v := hval0
  have hW' := hW
  obtain ⟨p, q, hA0, hV, rfl, hfz, hnd⟩ := hW
  have hA : DataW.TrodAll enc Try.prog W 0 (fun _ => true) true Try.f9.params.toList args.toList ds p := hA0
  rw [Try.params9] at hA hval
  obtain ⟨v0, vs0, d0, ds0, p0, q0, hargs, rfl, rfl, h0, r0⟩ := trodAll_cons hA
  obtain ⟨v1, vs1, d1, ds1, p1, q1, rfl, rfl, rfl, h1, r1⟩ := trodAll_cons r0
  obtain ⟨rfl, rfl, rfl⟩ := trodAll_nil r1
  obtain rfl : args = #[v0, v1] := by cases args; simp_all
  obtain ⟨rfl, rfl⟩ := trodVars_none hV
  have k0 := h0
  have lt0 : ∀ x ∈ p0, x.block < W.heap.size := by obtain ⟨m, hm⟩ := k0; exact DataW.trod_lt m _ _ _ hm
  have k1 := h1
  have lt1 : ∀ x ∈ p1, x.block < W.heap.size := by obtain ⟨m, hm⟩ := k1; exact DataW.trod_lt m _ _ _ hm
  obtain ⟨a0, cs0, rfl, e0, q0_⟩ := arg_struct Try.underlying23 o23 (hval 0 23 v0 rfl rfl) h0
  obtain rfl := Pure.k23_open e0
  obtain ⟨a1, rfl, rfl, rfl, w1⟩ := open_int Try.underlying2 (hval 1 2 v1 rfl rfl) h1
  have b1 : I64 a1 := bounds_i64 w1
  clear hA0 hval0 hsz0
  obtain ⟨k, hpure⟩ := Pure.SizeOr a0 a1 q0_ b1
  refine (PSizeOr.decoupagelaw09_SizeOr.calls k a0.f0 a0.f1 a1 true W hpure).mono fun e W' ⟨he, bel⟩ => ?_
  subst he
  exact ⟨_, rfl, _, _, _, [], _, [], hW', trodAll_mk1 (shut_bool Try.underlying4 _), (trodAll_cons_mk (Below.trod laidOut (by kernel_rfl) (of_decide_eq_true (by kernel_rfl)) k0 bel lt0) (trodAll_cons_mk (Below.trod laidOut (by kernel_rfl) (of_decide_eq_true (by kernel_rfl)) k1 bel lt1) trodAll_mk0)), rfl, bel.frame _, fun h => by cases h⟩
theorem over : Rows.sizeOrRow.holds Try.pinned (OpenSpec.ofChange Rows.sizeOrSpec) :=
  OpenClaim.holds_of_wide 9 Try.f9 rfl rfl rfl rfl rfl rfl rfl ⟨rfl, rfl, rfl, rfl, rfl⟩ rfl rfl rfl rfl rfl (by kernel_rfl) Try.func9 (by kernel_rfl)
    (of_decide_eq_true (by kernel_rfl)) (by unfold Func.isWrapper; first | (rw [if_pos (by decide +kernel)]; kernel_rfl) | (rw [if_neg (by decide +kernel)]; exact ⟨rfl, rfl⟩))
    (fun os started H enc _ => lifted os started H enc)
theorem proved : Rows.SizeOrSaid := over
end Go.Proofs.Ytpoeebngkakmeaa.sizeOr
namespace Go.Proofs.Ytpoeebngkakmeaa
/-- The row, under a short name, for the claim. -/
theorem sizeOr_holds : Rows.SizeOrSaid := sizeOr.proved
#print axioms sizeOr_holds
end Go.Proofs.Ytpoeebngkakmeaa
