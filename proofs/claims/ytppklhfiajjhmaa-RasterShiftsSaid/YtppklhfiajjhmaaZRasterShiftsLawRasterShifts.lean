/- What is proved: 'RasterShifts' (the law of that name): for every input the call returns true, and each argument reads afterwards as it read before. Conditions: none but the given row's own. -/
import Derived.Test.YtppklhfiajjhmaaRows
import Derived.Test.YtppklhfiajjhmaaZRasterShiftsPRasterShiftsx
import Derived.Test.YtppklhfiajjhmaaZRasterShiftsPureRasterShifts
import Derived.Test.YtppklhfiajjhmaaZRasterShiftsOpens
import Derived.WalkKit
import Derived.ProofKit
import Derived.OpenShut
import Derived.ShutString
import Derived.ChangeOld
import Derived.Below
import Derived.SizedLaws
namespace Go.Proofs.Ytppklhfiajjhmaa.rasterShifts
open Go.ChangeShapes Go.WideShapes Go.ChangeAt Go.RowKit Go.Proofs.Ytppklhfiajjhmaa.Opens Go.Proofs.YtppklhfiajjhmaaW.PrintWords
set_option linter.unusedVariables false
theorem own : ownKnob Try.prog.godebug = none := by kernel_rfl
theorem laidOut : laidOutB Try.prog = true := by kernel_rfl
theorem o3 : Opens Try.prog 3 (Kd.int .i64) I64 := opens_i64 Try.underlying3 (by kernel_rfl)
theorem o2 : Opens Try.prog 2 (Kd.int .i64) I64 := opens_i64 Try.underlying2 (by kernel_rfl)
instance : Inhabited PRasterShifts.S37 := ⟨PRasterShifts.z37⟩
theorem o37 : Opens Try.prog 37 PRasterShifts.k37 Pure.Q37 := opens_struct (g := (fun y => (⟨y.1, y.2.1, y.2.2.1, y.2.2.2⟩ : PRasterShifts.S37))) Try.underlying37 (by kernel_rfl) (fun _ => rfl) (fo_cons rfl rfl o2 (fo_cons rfl rfl o2 (fo_cons rfl rfl o2 (fo_last (f := _) rfl rfl (by rfl) o2))))
instance : Inhabited PRasterShifts.S39 := ⟨PRasterShifts.z39⟩
theorem o39 : Opens Try.prog 39 PRasterShifts.k39 Pure.Q39 := opens_struct (g := (fun y => (⟨y.1, y.2.1, y.2.2.1, y.2.2.2.1, y.2.2.2.2.1, y.2.2.2.2.2⟩ : PRasterShifts.S39))) Try.underlying39 (by kernel_rfl) (fun _ => rfl) (fo_cons rfl rfl o3 (fo_cons rfl rfl o3 (fo_cons rfl rfl o37 (fo_cons rfl rfl o37 (fo_cons rfl rfl o37 (fo_last (f := _) rfl rfl (by rfl) o2))))))
instance : Inhabited Pure.S44 := ⟨Pure.z44⟩
theorem o44 : Opens Try.prog 44 Pure.k44 Pure.Q44 := opens_struct (g := (fun y => (⟨y.1, y.2.1, y.2.2.1, y.2.2.2.1, y.2.2.2.2⟩ : Pure.S44))) Try.underlying44 (by kernel_rfl) (fun _ => rfl) (fo_cons rfl rfl o2 (fo_cons rfl rfl o2 (fo_cons rfl rfl o2 (fo_cons rfl rfl o3 (fo_last (f := _) rfl rfl (by rfl) o3)))))
set_option maxRecDepth 100000 in
theorem lifted (os : Os) (started : os.Started) (H : Type) (enc : TypeId × Value → H) :
    ReturnsInHanded {} Try.checked os 9 .any (Rows.rasterShiftsSpec.pre6 enc Try.prog Try.f9 Rows.rasterShiftsRow.domain false) (Rows.rasterShiftsSpec.post enc Try.prog Try.f9 false true false false) := by
  refine returnsInHanded_of_change_sized (C := Try.checked) own started (by kernel_rfl) Try.func9
    (ChangeSpec.witness6 (enc := enc) (C := Try.checked) false ⟨#[], #[.slice none 0 0, .agg #[.int .i64 0, .int .i64 0, .int .i64 0, .int .i64 0, .int .i64 0], .int .i32 0, .int .i32 0], []⟩ 8 (by kernel_rfl) (by kernel_rfl) (by kernel_rfl) (by kernel_rfl)) ?_
  intro W base args ds gs before hval0 hW hcnd hsz0 _
  have hval : ∀ (j : Nat) t v, Try.f9.params[j]? = some t → args[j]? = some v → Value.okWide Try.prog W .any base t v := hval0
  have hW' := hW
  obtain ⟨p, q, hA0, hV, rfl, hfz, hnd⟩ := hW
  have hA : DataW.TrodAll enc Try.prog W 0 (fun _ => true) true Try.f9.params.toList args.toList ds p := hA0
  rw [Try.params9] at hA hval
  obtain ⟨v0, vs0, d0, ds0, p0, q0, hargs, rfl, rfl, h0, r0⟩ := trodAll_cons hA
  obtain ⟨v1, vs1, d1, ds1, p1, q1, rfl, rfl, rfl, h1, r1⟩ := trodAll_cons r0
  obtain ⟨v2, vs2, d2, ds2, p2, q2, rfl, rfl, rfl, h2, r2⟩ := trodAll_cons r1
  obtain ⟨v3, vs3, d3, ds3, p3, q3, rfl, rfl, rfl, h3, r3⟩ := trodAll_cons r2
  obtain ⟨rfl, rfl, rfl⟩ := trodAll_nil r3
  obtain rfl : args = #[v0, v1, v2, v3] := by cases args; simp_all
  obtain ⟨rfl, rfl⟩ := trodVars_none hV
  have k0 := h0
  have lt0 : ∀ x ∈ p0, x.block < W.heap.size := by obtain ⟨m, hm⟩ := k0; exact DataW.trod_lt m _ _ _ hm
  have k1 := h1
  have lt1 : ∀ x ∈ p1, x.block < W.heap.size := by obtain ⟨m, hm⟩ := k1; exact DataW.trod_lt m _ _ _ hm
  have k2 := h2
  have lt2 : ∀ x ∈ p2, x.block < W.heap.size := by obtain ⟨m, hm⟩ := k2; exact DataW.trod_lt m _ _ _ hm
  have k3 := h3
  have lt3 : ∀ x ∈ p3, x.block < W.heap.size := by obtain ⟨m, hm⟩ := k3; exact DataW.trod_lt m _ _ _ hm
  obtain ⟨A0, c0, l0, rfl, hc0, hr0, q0_⟩ := arg_slice Try.underlying22 (by kernel_rfl) o39 (hval 0 22 v0 rfl rfl) h0
  obtain ⟨a1, cs1, rfl, e1, q1_⟩ := arg_struct Try.underlying44 o44 (hval 1 44 v1 rfl rfl) h1
  obtain rfl := Pure.k44_open e1
  obtain ⟨a2, rfl, rfl, rfl, w2⟩ := open_int Try.underlying21 (hval 2 21 v2 rfl rfl) h2
  obtain ⟨a3, rfl, rfl, rfl, w3⟩ := open_int Try.underlying21 (hval 3 21 v3 rfl rfl) h3
  clear hA0 hval0 hsz0
  obtain ⟨k, hpure⟩ := Pure.RasterShifts l0 a1 a2 a3 q0_ q1_ w2 w3
  refine (PRasterShifts.decoupagelaw28_RasterShifts.calls k A0 c0 l0 a1.f0 a1.f1 a1.f2 a1.f3 a1.f4 a2 a3 true W hr0 hc0 hpure).mono fun e W' ⟨he, bel⟩ => ?_
  subst he
  exact ⟨_, rfl, _, _, _, [], _, [], hW', trodAll_mk1 (shut_bool Try.underlying4 _), (trodAll_cons_mk (Below.trod laidOut (by kernel_rfl) (of_decide_eq_true (by kernel_rfl)) k0 bel lt0) (trodAll_cons_mk (Below.trod laidOut (by kernel_rfl) (of_decide_eq_true (by kernel_rfl)) k1 bel lt1) (trodAll_cons_mk (Below.trod laidOut (by kernel_rfl) (of_decide_eq_true (by kernel_rfl)) k2 bel lt2) (trodAll_cons_mk (Below.trod laidOut (by kernel_rfl) (of_decide_eq_true (by kernel_rfl)) k3 bel lt3) trodAll_mk0)))), rfl, bel.frame _, fun h => by cases h⟩
theorem over : Rows.rasterShiftsRow.holds Try.pinned (OpenSpec.ofChange Rows.rasterShiftsSpec) :=
  OpenClaim.holds_of_wide 9 Try.f9 rfl rfl rfl rfl rfl rfl rfl ⟨rfl, rfl, rfl, rfl, rfl⟩ rfl rfl rfl rfl rfl (by kernel_rfl) Try.func9 (by kernel_rfl)
    (of_decide_eq_true (by kernel_rfl)) (by unfold Func.isWrapper; first | (rw [if_pos (by decide +kernel)]; kernel_rfl) | (rw [if_neg (by decide +kernel)]; exact ⟨rfl, rfl⟩))
    (fun os started H enc _ => lifted os started H enc)
theorem proved : Rows.RasterShiftsSaid := over
end Go.Proofs.Ytppklhfiajjhmaa.rasterShifts
namespace Go.Proofs.Ytppklhfiajjhmaa
/-- The row, under a short name, for the claim. -/
theorem rasterShifts_holds : Rows.RasterShiftsSaid := rasterShifts.proved
#print axioms rasterShifts_holds
end Go.Proofs.Ytppklhfiajjhmaa
