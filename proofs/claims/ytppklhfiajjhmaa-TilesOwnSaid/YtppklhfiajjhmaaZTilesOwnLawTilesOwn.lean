/- What is proved: 'TilesOwn' (the law of that name): for every input the call returns true, and each argument reads afterwards as it read before. Conditions: none but the given row's own. -/
import Derived.Test.YtppklhfiajjhmaaRows
import Derived.Test.YtppklhfiajjhmaaZTilesOwn22
import Derived.Test.YtppklhfiajjhmaaZTilesOwn20
import Derived.WalkKit
import Derived.ProofKit
import Derived.OpenShut
import Derived.ShutString
import Derived.ChangeOld
import Derived.Below
import Derived.SizedLaws
namespace Go.Proofs.Ytppklhfiajjhmaa.tilesOwn
open Go.ChangeShapes Go.WideShapes Go.ChangeAt Go.RowKit Go.Proofs.Ytppklhfiajjhmaa.Reads Go.Proofs.Ytppklhfiajjhmaa.AskWords
set_option linter.unusedVariables false
theorem own : ownKnob Try.prog.godebug = none := by kernel_rfl
theorem laidOut : laidOutB Try.prog = true := by kernel_rfl
theorem o2 : Opens Try.prog 2 [isI64] := opens_i64 Try.underlying2 (by kernel_rfl)
theorem o3 : Opens Try.prog 3 [isI64] := opens_i64 Try.underlying3 (by kernel_rfl)
theorem o44 : Opens Try.prog 44 [isI64, isI64, isI64, isI64, isI64] := opens_struct Try.underlying44 (by kernel_rfl) (fo_cons rfl rfl o2 (fo_cons rfl rfl o2 (fo_cons rfl rfl o2 (fo_cons rfl rfl o3 (fo_last (f := _) rfl rfl (by rfl) o3) rfl) rfl) rfl) rfl)
theorem o37 : Opens Try.prog 37 [isI64, isI64, isI64, isI64] := opens_struct Try.underlying37 (by kernel_rfl) (fo_cons rfl rfl o2 (fo_cons rfl rfl o2 (fo_cons rfl rfl o2 (fo_last (f := _) rfl rfl (by rfl) o2) rfl) rfl) rfl)
theorem o39 : Opens Try.prog 39 [isI64, isI64, isI64, isI64, isI64, isI64, isI64, isI64, isI64, isI64, isI64, isI64, isI64, isI64, isI64] := opens_struct Try.underlying39 (by kernel_rfl) (fo_cons rfl rfl o3 (fo_cons rfl rfl o3 (fo_cons rfl rfl o37 (fo_cons rfl rfl o37 (fo_cons rfl rfl o37 (fo_last (f := _) rfl rfl (by rfl) o2) rfl) rfl) rfl) rfl) rfl)
set_option maxRecDepth 100000 in
theorem lifted (os : Os) (started : os.Started) (H : Type) (enc : TypeId × Value → H) :
    ReturnsInHanded {} Try.checked os 11 .any (Rows.tilesOwnSpec.pre6 enc Try.prog Try.f11 Rows.tilesOwnRow.domain false) (Rows.tilesOwnSpec.post enc Try.prog Try.f11 false true false false) := by
  refine returnsInHanded_of_change_sized (C := Try.checked) own started (by kernel_rfl) Try.func11
    (ChangeSpec.witness6 (enc := enc) (C := Try.checked) false ⟨#[], #[.agg #[.int .i64 0, .int .i64 0, .int .i64 0, .int .i64 0, .int .i64 0], .slice none 0 0], []⟩ 8 (by kernel_rfl) (by kernel_rfl) (by kernel_rfl) (by kernel_rfl)) ?_
  intro W base args ds gs before hval0 hW hcnd hsz0 _
  have hval : ∀ (j : Nat) t v, Try.f11.params[j]? = some t → args[j]? = some v → Value.okWide Try.prog W .any base t v := hval0
  have hW' := hW
  obtain ⟨p, q, hA0, hV, rfl, hfz, hnd⟩ := hW
  have hA : DataW.TrodAll enc Try.prog W 0 (fun _ => true) true Try.f11.params.toList args.toList ds p := hA0
  rw [Try.params11] at hA hval
  obtain ⟨v0, vs0, d0, ds0, p0, q0, hargs, rfl, rfl, h0, r0⟩ := trodAll_cons hA
  obtain ⟨v1, vs1, d1, ds1, p1, q1, rfl, rfl, rfl, h1, r1⟩ := trodAll_cons r0
  obtain ⟨rfl, rfl, rfl⟩ := trodAll_nil r1
  obtain rfl : args = #[v0, v1] := by cases args; simp_all
  obtain ⟨rfl, rfl⟩ := trodVars_none hV
  have k0 := h0
  have lt0 : ∀ x ∈ p0, x.block < W.heap.size := by obtain ⟨m, hm⟩ := k0; exact DataW.trod_lt m _ _ _ hm
  have k1 := h1
  have lt1 : ∀ x ∈ p1, x.block < W.heap.size := by obtain ⟨m, hm⟩ := k1; exact DataW.trod_lt m _ _ _ hm
  obtain ⟨cs0_0, rfl, f0_0⟩ := arg_struct Try.underlying44 o44 (hval 0 44 v0 rfl rfl) h0
  obtain ⟨_, cs0_1, rfl, ⟨a0_0, rfl, b0_0⟩, f0_1⟩ := fits_cons f0_0
  obtain ⟨_, cs0_2, rfl, ⟨a0_1, rfl, b0_1⟩, f0_2⟩ := fits_cons f0_1
  obtain ⟨_, cs0_3, rfl, ⟨a0_2, rfl, b0_2⟩, f0_3⟩ := fits_cons f0_2
  obtain ⟨_, cs0_4, rfl, ⟨a0_3, rfl, b0_3⟩, f0_4⟩ := fits_cons f0_3
  obtain ⟨_, cs0_5, rfl, ⟨a0_4, rfl, b0_4⟩, f0_5⟩ := fits_cons f0_4
  obtain rfl := fits_nil f0_5
  obtain ⟨A1, c1, l1, rfl, hc1, hm1, hr1⟩ := arg_slice Try.underlying22 o39 (hval 1 22 v1 rfl rfl) h1
  clear hA0 hval0 hsz0
  have hcall : Calls Try.prog 11 #[.agg #[.int .i64 a0_0, .int .i64 a0_1, .int .i64 a0_2, .int .i64 a0_3, .int .i64 a0_4], .slice A1 l1.length c1] W (IsTrue W) := by
    apply Ti.TilesOwn_any <;> assumption
  refine hcall.mono fun e W' ⟨he, bel⟩ => ?_
  subst he
  exact ⟨_, rfl, _, _, _, [], _, [], hW', trodAll_mk1 (shut_bool Try.underlying4 _), (trodAll_cons_mk (Below.trod laidOut (by kernel_rfl) (of_decide_eq_true (by kernel_rfl)) k0 bel lt0) (trodAll_cons_mk (Below.trod laidOut (by kernel_rfl) (of_decide_eq_true (by kernel_rfl)) k1 bel lt1) trodAll_mk0)), rfl, bel.frame _, fun h => by cases h⟩
theorem over : Rows.tilesOwnRow.holds Try.pinned (OpenSpec.ofChange Rows.tilesOwnSpec) :=
  OpenClaim.holds_of_wide 11 Try.f11 rfl rfl rfl rfl rfl rfl rfl ⟨rfl, rfl, rfl, rfl, rfl⟩ rfl rfl rfl rfl rfl (by kernel_rfl) Try.func11 (by kernel_rfl)
    (of_decide_eq_true (by kernel_rfl)) (by unfold Func.isWrapper; first | (rw [if_pos (by decide +kernel)]; kernel_rfl) | (rw [if_neg (by decide +kernel)]; exact ⟨rfl, rfl⟩))
    (fun os started H enc _ => lifted os started H enc)
theorem proved : Rows.TilesOwnSaid := over
end Go.Proofs.Ytppklhfiajjhmaa.tilesOwn
namespace Go.Proofs.Ytppklhfiajjhmaa
/-- The row, under a short name, for the claim. -/
theorem tilesOwn_holds : Rows.TilesOwnSaid := tilesOwn.proved
#print axioms tilesOwn_holds
end Go.Proofs.Ytppklhfiajjhmaa

