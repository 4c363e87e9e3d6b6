/- What is proved: 'HarmAlike' (the law of that name): for every input the call returns true, and each argument reads afterwards as it read before. Conditions: none but the given row's own. -/
import Derived.Test.YtppklhfiajjhmaaRows
import Derived.Test.YtppklhfiajjhmaaMHarmAlike
import Derived.Test.YtppklhfiajjhmaaPureHarmAlike
import Derived.Test.YtppklhfiajjhmaaOpens
import Derived.WalkKit
import Derived.ProofKit
import Derived.OpenShut
import Derived.ShutString
import Derived.ChangeOld
import Derived.Below
import Derived.SizedLaws
namespace Go.Proofs.Ytppklhfiajjhmaa.harmAlike
open Go.ChangeShapes Go.WideShapes Go.ChangeAt Go.RowKit Go.Proofs.Ytppklhfiajjhmaa.Opens Go.Proofs.YtppklhfiajjhmaaW.PrintWords
set_option linter.unusedVariables false
theorem own : ownKnob Try.prog.godebug = none := by kernel_rfl
theorem laidOut : laidOutB Try.prog = true := by kernel_rfl
theorem o3 : Opens Try.prog 3 (Kd.int .i64) I64 := opens_i64 Try.underlying3 (by kernel_rfl)
theorem o2 : Opens Try.prog 2 (Kd.int .i64) I64 := opens_i64 Try.underlying2 (by kernel_rfl)
instance : Inhabited PHarmAlike.S37 := ⟨PHarmAlike.z37⟩
theorem o37 : Opens Try.prog 37 PHarmAlike.k37 Pure.Q37 := opens_struct (g := (fun y => (⟨y.1, y.2.1, y.2.2.1, y.2.2.2⟩ : PHarmAlike.S37))) Try.underlying37 (by kernel_rfl) (fun _ => rfl) (fo_cons rfl rfl o2 (fo_cons rfl rfl o2 (fo_cons rfl rfl o2 (fo_last (f := _) rfl rfl (by rfl) o2))))
instance : Inhabited PHarmAlike.S39 := ⟨PHarmAlike.z39⟩
theorem o39 : Opens Try.prog 39 PHarmAlike.k39 Pure.Q39 := opens_struct (g := (fun y => (⟨y.1, y.2.1, y.2.2.1, y.2.2.2.1, y.2.2.2.2.1, y.2.2.2.2.2⟩ : PHarmAlike.S39))) Try.underlying39 (by kernel_rfl) (fun _ => rfl) (fo_cons rfl rfl o3 (fo_cons rfl rfl o3 (fo_cons rfl rfl o37 (fo_cons rfl rfl o37 (fo_cons rfl rfl o37 (fo_last (f := _) rfl rfl (by rfl) o2))))))
set_option maxRecDepth 100000 in
theorem lifted (os : Os) (started : os.Started) (H : Type) (enc : TypeId × Value → H) :
    ReturnsInHanded {} Try.checked os 5 .any (Rows.harmAlikeSpec.pre6 enc Try.prog Try.f5 Rows.harmAlikeRow.domain false) (Rows.harmAlikeSpec.post enc Try.prog Try.f5 false true false false) := by
  refine returnsInHanded_of_change_sized (C := Try.checked) own started (by kernel_rfl) Try.func5
    (ChangeSpec.witness6 (enc := enc) (C := Try.checked) false ⟨#[], #[.agg #[.int .i64 0, .int .i64 0, .int .i64 0, .int .i64 0, .int .i64 0, .int .i64 0, .int .i64 0, .int .i64 0, .int .i64 0, .int .i64 0, .int .i64 0, .int .i64 0, .int .i64 0, .int .i64 0, .int .i64 0], .agg #[.int .i64 0, .int .i64 0, .int .i64 0, .int .i64 0, .int .i64 0, .int .i64 0, .int .i64 0, .int .i64 0, .int .i64 0, .int .i64 0, .int .i64 0, .int .i64 0, .int .i64 0, .int .i64 0, .int .i64 0], .slice none 0 0], []⟩ 8 (by kernel_rfl) (by kernel_rfl) (by kernel_rfl) (by kernel_rfl)) ?_
  intro W base args ds gs before hval0 hW hcnd hsz0 _
  have hval : ∀ (j : Nat) t v, Try.f5.params[j]? = some t → args[j]? = some v → Value.okWide Try.prog W .any base t v := hval0
  have hW' := hW
  obtain ⟨p, q, hA0, hV, rfl, hfz, hnd⟩ := hW
  have hA : DataW.TrodAll enc Try.prog W 0 (fun _ => true) true Try.f5.params.toList args.toList ds p := hA0
  rw [Try.params5] at hA hval
  obtain ⟨v0, vs0, d0, ds0, p0, q0, hargs, rfl, rfl, h0, r0⟩ := trodAll_cons hA
  obtain ⟨v1, vs1, d1, ds1, p1, q1, rfl, rfl, rfl, h1, r1⟩ := trodAll_cons r0
  obtain ⟨v2, vs2, d2, ds2, p2, q2, rfl, rfl, rfl, h2, r2⟩ := trodAll_cons r1
  obtain ⟨rfl, rfl, rfl⟩ := trodAll_nil r2
  obtain rfl : args = #[v0, v1, v2] := by cases args; simp_all
  obtain ⟨rfl, rfl⟩ := trodVars_none hV
  have k0 := h0
  have lt0 : ∀ x ∈ p0, x.block < W.heap.size := by obtain ⟨m, hm⟩ := k0; exact DataW.trod_lt m _ _ _ hm
  have k1 := h1
  have lt1 : ∀ x ∈ p1, x.block < W.heap.size := by obtain ⟨m, hm⟩ := k1; exact DataW.trod_lt m _ _ _ hm
  have k2 := h2
  have lt2 : ∀ x ∈ p2, x.block < W.heap.size := by obtain ⟨m, hm⟩ := k2; exact DataW.trod_lt m _ _ _ hm
  obtain ⟨a0, cs0, rfl, e0, q0_⟩ := arg_struct Try.underlying39 o39 (hval 0 39 v0 rfl rfl) h0
  obtain rfl := PHarmAlike.k39_open e0
  obtain ⟨a1, cs1, rfl, e1, q1_⟩ := arg_struct Try.underlying39 o39 (hval 1 39 v1 rfl rfl) h1
  obtain rfl := PHarmAlike.k39_open e1
  obtain ⟨A2, c2, l2, rfl, hc2, hr2, q2_⟩ := arg_slice Try.underlying22 (by kernel_rfl) o39 (hval 2 22 v2 rfl rfl) h2
  clear hA0 hval0 hsz0
  obtain ⟨k, hpure⟩ := Pure.HarmAlike a0 a1 l2 q0_ q1_ q2_
  refine (PHarmAlike.decoupagelaw29_HarmAlike.calls k a0.f0 a0.f1 a0.f2.f0 a0.f2.f1 a0.f2.f2 a0.f2.f3 a0.f3.f0 a0.f3.f1 a0.f3.f2 a0.f3.f3 a0.f4.f0 a0.f4.f1 a0.f4.f2 a0.f4.f3 a0.f5 a1.f0 a1.f1 a1.f2.f0 a1.f2.f1 a1.f2.f2 a1.f2.f3 a1.f3.f0 a1.f3.f1 a1.f3.f2 a1.f3.f3 a1.f4.f0 a1.f4.f1 a1.f4.f2 a1.f4.f3 a1.f5 A2 c2 l2 true W hr2 hc2 hpure).mono fun e W' ⟨he, bel⟩ => ?_
  subst he
  exact ⟨_, rfl, _, _, _, [], _, [], hW', trodAll_mk1 (shut_bool Try.underlying4 _), (trodAll_cons_mk (Below.trod laidOut (by kernel_rfl) (of_decide_eq_true (by kernel_rfl)) k0 bel lt0) (trodAll_cons_mk (Below.trod laidOut (by kernel_rfl) (of_decide_eq_true (by kernel_rfl)) k1 bel lt1) (trodAll_cons_mk (Below.trod laidOut (by kernel_rfl) (of_decide_eq_true (by kernel_rfl)) k2 bel lt2) trodAll_mk0))), rfl, bel.frame _, fun h => by cases h⟩
theorem over : Rows.harmAlikeRow.holds Try.pinned (OpenSpec.ofChange Rows.harmAlikeSpec) :=
  OpenClaim.holds_of_wide 5 Try.f5 rfl rfl rfl rfl rfl rfl rfl ⟨rfl, rfl, rfl, rfl, rfl⟩ rfl rfl rfl rfl rfl (by kernel_rfl) Try.func5 (by kernel_rfl)
    (of_decide_eq_true (by kernel_rfl)) (by unfold Func.isWrapper; first | (rw [if_pos (by decide +kernel)]; kernel_rfl) | (rw [if_neg (by decide +kernel)]; exact ⟨rfl, rfl⟩))
    (fun os started H enc _ => lifted os started H enc)
theorem proved : Rows.HarmAlikeSaid := over
end Go.Proofs.Ytppklhfiajjhmaa.harmAlike
namespace Go.Proofs.Ytppklhfiajjhmaa
/-- The row, under a short name, for the claim. -/
theorem harmAlike_holds : Rows.HarmAlikeSaid := harmAlike.proved
#print axioms harmAlike_holds
end Go.Proofs.Ytppklhfiajjhmaa
