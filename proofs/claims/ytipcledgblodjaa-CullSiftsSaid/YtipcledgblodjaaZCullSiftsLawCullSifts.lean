/- What is proved: 'CullSifts' (the law of that name): for every input the call returns true, and each argument reads afterwards as it read before. Conditions: none but the given row's own. -/
import Derived.Test.YtipcledgblodjaaRows
import Derived.Test.YtipcledgblodjaaZCullSiftsMCullSifts
import Derived.Test.YtipcledgblodjaaZCullSiftsPureCullSifts
import Derived.Test.YtipcledgblodjaaZCullSiftsOpens
import Derived.WalkKit
import Derived.ProofKit
import Derived.OpenShut
import Derived.ShutString
import Derived.ChangeOld
import Derived.Below
import Derived.SizedLaws
namespace Go.Proofs.Ytipcledgblodjaa.cullSifts
open Go.ChangeShapes Go.WideShapes Go.ChangeAt Go.RowKit Go.Proofs.Ytipcledgblodjaa.Opens Go.Proofs.YtipcledgblodjaaW.PrintWords
set_option linter.unusedVariables false
theorem own : ownKnob Try.prog.godebug = none := by kernel_rfl
theorem laidOut : laidOutB Try.prog = true := by kernel_rfl
theorem o3 : Opens Try.prog 3 (Kd.int .i64) I64 := opens_i64 Try.underlying3 (by kernel_rfl)
theorem o2 : Opens Try.prog 2 (Kd.int .i64) I64 := opens_i64 Try.underlying2 (by kernel_rfl)
instance : Inhabited PCullSifts.S24 := ⟨PCullSifts.z24⟩
theorem o24 : Opens Try.prog 24 PCullSifts.k24 Pure.Q24 := opens_struct (g := (fun y => (⟨y.1, y.2.1, y.2.2.1, y.2.2.2⟩ : PCullSifts.S24))) Try.underlying24 (by kernel_rfl) (fun _ => rfl) (fo_cons rfl rfl o2 (fo_cons rfl rfl o2 (fo_cons rfl rfl o2 (fo_last (f := _) rfl rfl (by rfl) o2))))
instance : Inhabited PCullSifts.S26 := ⟨PCullSifts.z26⟩
theorem o26 : Opens Try.prog 26 PCullSifts.k26 Pure.Q26 := opens_struct (g := (fun y => (⟨y.1, y.2.1, y.2.2.1, y.2.2.2.1, y.2.2.2.2.1, y.2.2.2.2.2⟩ : PCullSifts.S26))) Try.underlying26 (by kernel_rfl) (fun _ => rfl) (fo_cons rfl rfl o3 (fo_cons rfl rfl o3 (fo_cons rfl rfl o24 (fo_cons rfl rfl o24 (fo_cons rfl rfl o24 (fo_last (f := _) rfl rfl (by rfl) o2))))))
set_option maxRecDepth 100000 in
theorem lifted (os : Os) (started : os.Started) (H : Type) (enc : TypeId × Value → H) :
    ReturnsInHanded {} Try.checked os 11 .any (Rows.cullSiftsSpec.pre6 enc Try.prog Try.f11 Rows.cullSiftsRow.domain false) (Rows.cullSiftsSpec.post enc Try.prog Try.f11 false true false false) := by
  refine returnsInHanded_of_change_sized (C := Try.checked) own started (by kernel_rfl) Try.func11
    (ChangeSpec.witness6 (enc := enc) (C := Try.checked) false ⟨#[], #[.slice none 0 0], []⟩ 8 (by kernel_rfl) (by kernel_rfl) (by kernel_rfl) (by kernel_rfl)) ?_
  intro W base args ds gs before hval0 hW hcnd hsz0 _
  have hval : ∀ (j : Nat) t v, Try.f11.params[j]? = some t → args[j]? = some v → Value.okWide Try.prog W .any base t v := hval0
  have hW' := hW
  obtain ⟨p, q, hA0, hV, rfl, hfz, hnd⟩ := hW
  have hA : DataW.TrodAll enc Try.prog W 0 (fun _ => true) true Try.f11.params.toList args.toList ds p := hA0
  rw [Try.params11] at hA hval
  obtain ⟨v0, vs0, d0, ds0, p0, q0, hargs, rfl, rfl, h0, r0⟩ := trodAll_cons hA
  obtain ⟨rfl, rfl, rfl⟩ := trodAll_nil r0
  obtain rfl : args = #[v0] := by cases args; simp_all
  obtain ⟨rfl, rfl⟩ := trodVars_none hV
  have k0 := h0
  have lt0 : ∀ x ∈ p0, x.block < W.heap.size := by obtain ⟨m, hm⟩ := k0; exact DataW.trod_lt m _ _ _ hm
  obtain ⟨A0, c0, l0, rfl, hc0, hr0, q0_⟩ := arg_slice Try.underlying22 (by kernel_rfl) o26 (hval 0 22 v0 rfl rfl) h0
  clear hA0 hval0 hsz0
  obtain ⟨k, hpure⟩ := Pure.CullSifts l0 q0_
  refine (PCullSifts.decoupagelaw27_CullSifts.calls k A0 c0 l0 true W hr0 hc0 hpure).mono fun e W' ⟨he, bel⟩ => ?_
  subst he
  exact ⟨_, rfl, _, _, _, [], _, [], hW', trodAll_mk1 (shut_bool Try.underlying4 _), (trodAll_cons_mk (Below.trod laidOut (by kernel_rfl) (of_decide_eq_true (by kernel_rfl)) k0 bel lt0) trodAll_mk0), rfl, bel.frame _, fun h => by cases h⟩
theorem over : Rows.cullSiftsRow.holds Try.pinned (OpenSpec.ofChange Rows.cullSiftsSpec) :=
  OpenClaim.holds_of_wide 11 Try.f11 rfl rfl rfl rfl rfl rfl rfl ⟨rfl, rfl, rfl, rfl, rfl⟩ rfl rfl rfl rfl rfl (by kernel_rfl) Try.func11 (by kernel_rfl)
    (of_decide_eq_true (by kernel_rfl)) (by unfold Func.isWrapper; first | (rw [if_pos (by decide +kernel)]; kernel_rfl) | (rw [if_neg (by decide +kernel)]; exact ⟨rfl, rfl⟩))
    (fun os started H enc _ => lifted os started H enc)
theorem proved : Rows.CullSiftsSaid := over
end Go.Proofs.Ytipcledgblodjaa.cullSifts
namespace Go.Proofs.Ytipcledgblodjaa
/-- The row, under a short name, for the claim. -/
theorem cullSifts_holds : Rows.CullSiftsSaid := cullSifts.proved
#print axioms cullSifts_holds
end Go.Proofs.Ytipcledgblodjaa
