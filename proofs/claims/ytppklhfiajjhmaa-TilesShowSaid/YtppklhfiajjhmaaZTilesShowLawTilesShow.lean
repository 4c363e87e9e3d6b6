/- What is proved: 'TilesShow' (the law of that name): for every input the call returns true, and each argument reads afterwards as it read before. Conditions: none but the given row's own. -/
import Derived.Test.YtppklhfiajjhmaaRows
import Derived.Test.YtppklhfiajjhmaaZTilesShow22
import Derived.Test.YtppklhfiajjhmaaZTilesShow19
import Derived.WalkKit
import Derived.ProofKit
import Derived.OpenShut
import Derived.ShutString
import Derived.ChangeOld
import Derived.Below
import Derived.SizedLaws
namespace Go.Proofs.Ytppklhfiajjhmaa.tilesShow
open Go.ChangeShapes Go.WideShapes Go.ChangeAt Go.RowKit Go.Proofs.Ytppklhfiajjhmaa.Reads Go.Proofs.Ytppklhfiajjhmaa.AskWords
set_option linter.unusedVariables false
theorem own : ownKnob Try.prog.godebug = none := by kernel_rfl
theorem laidOut : laidOutB Try.prog = true := by kernel_rfl
theorem o2 : Opens Try.prog 2 [isI64] := opens_i64 Try.underlying2 (by kernel_rfl)
theorem o3 : Opens Try.prog 3 [isI64] := opens_i64 Try.underlying3 (by kernel_rfl)
theorem o44 : Opens Try.prog 44 [isI64, isI64, isI64, isI64, isI64] := opens_struct Try.underlying44 (by kernel_rfl) (fo_cons rfl rfl o2 (fo_cons rfl rfl o2 (fo_cons rfl rfl o2 (fo_cons rfl rfl o3 (fo_last (f := _) rfl rfl (by rfl) o3) rfl) rfl) rfl) rfl)
theorem o37 : Opens Try.prog 37 [isI64, isI64, isI64, isI64] := opens_struct Try.underlying37 (by kernel_rfl) (fo_cons rfl rfl o2 (fo_cons rfl rfl o2 (fo_cons rfl rfl o2 (fo_last (f := _) rfl rfl (by rfl) o2) rfl) rfl) rfl)
theorem o39 : Opens Try.prog 39 [isI64, isI64, isI64, isI64, isI64, isI64, isI64, isI64, isI64, isI64, isI64, isI64, isI64, isI64, isI64] := opens_struct Try.underlying39 (by kernel_rfl) (fo_cons rfl rfl o3 (fo_cons rfl rfl o3 (fo_cons rfl rfl o37 (fo_cons rfl rfl o37 (fo_cons rfl rfl o37 (fo_last (f := _) rfl rfl (by rfl) o2) rfl) rfl) rfl) rfl) rfl)
set_option maxRecDepth 100000 in
theorem lifted (os : Os) (started : os.Started) (H : Type) (enc : TypeId × Value → H) :
    ReturnsInHanded {} Try.checked os 12 .any (Rows.tilesShowSpec.pre6 enc Try.prog Try.f12 Rows.tilesShowRow.domain false) (Rows.tilesShowSpec.post enc Try.prog Try.f12 false true false false) := by
  refine returnsInHanded_of_change_sized (C := Try.checked) own started (by kernel_rfl) Try.func12
    (ChangeSpec.witness6 (enc := enc) (C := Try.checked) false ⟨#[], #[.agg #[.int .i64 0, .int .i64 0, .int .i64 0, .int .i64 0, .int .i64 0], .slice none 0 0, .int .i64 0, .int .i64 0], []⟩ 8 (by kernel_rfl) (by kernel_rfl) (by kernel_rfl) (by kernel_rfl)) ?_
  intro W base args ds gs before hval0 hW hcnd hsz0 _
  have hval : ∀ (j : Nat) t v, Try.f12.params[j]? = some t → args[j]? = some v → Value.okWide Try.prog W .any base t v := hval0
  have hW' := hW
  obtain ⟨p, q, hA0, hV, rfl, hfz, hnd⟩ := hW
  have hA : DataW.TrodAll enc Try.prog W 0 (fun _ => true) true Try.f12.params.toList args.toList ds p := hA0
  rw [Try.params12] at hA hval
  obtain ⟨v0, vs0, d0, ds0, p0, q0, hargs, rfl, rfl, h0, r0⟩ := trodAll_cons hA
  obtain ⟨v1, vs1, d1, ds1, p1, q1, rfl, rfl, rfl, h1, r1⟩ := trodAll_cons r0
  obtain ⟨v2, vs2, d2, ds2, p2, q2, rfl, rfl, rfl, h2, r2⟩ := trodAll_cons r1
  obtain ⟨v3, vs3, d3, ds3, p3, q3, rfl, rfl, rfl, h3, r3⟩ := trodAll_cons r2
  obtain ⟨rfl, rfl, rfl⟩ := trodAll_nil r3
  obtain rfl : args = #[v0, v1, v2, v3] := by cases args; simp_all
  obtain ⟨rfl, rfl⟩ := trodVars_none hV
  have k0 := h0
  have lt0 : ∀ x ∈ p0, x.block < W.heap.size := by obtain ⟨m, hm⟩ := k0; exact DataW.trod_lt m _ _ _ hm
  have k1 := h1
  have lt1 : ∀ x ∈ p1, x.block < W.heap.size := by obtain ⟨m, hm⟩ := k1; exact DataW.trod_lt m _ _ _ hm
  have k2 := h2
  have lt2 : ∀ x ∈ p2, x.block < W.heap.size := by obtain ⟨m, hm⟩ := k2; exact DataW.trod_lt m _ _ _ hm
  have k3 := h3
  have lt3 : ∀ x ∈ p3, x.block < W.heap.size := by obtain ⟨m, hm⟩ := k3; exact DataW.trod_lt m _ _ _ hm
  obtain ⟨cs0_0, rfl, f0_0⟩ := arg_struct Try.underlying44 o44 (hval 0 44 v0 rfl rfl) h0
  obtain ⟨_, cs0_1, rfl, ⟨a0_0, rfl, b0_0⟩, f0_1⟩ := fits_cons f0_0
  obtain ⟨_, cs0_2, rfl, ⟨a0_1, rfl, b0_1⟩, f0_2⟩ := fits_cons f0_1
  obtain ⟨_, cs0_3, rfl, ⟨a0_2, rfl, b0_2⟩, f0_3⟩ := fits_cons f0_2
  obtain ⟨_, cs0_4, rfl, ⟨a0_3, rfl, b0_3⟩, f0_4⟩ := fits_cons f0_3
  obtain ⟨_, cs0_5, rfl, ⟨a0_4, rfl, b0_4⟩, f0_5⟩ := fits_cons f0_4
  obtain rfl := fits_nil f0_5
  obtain ⟨A1, c1, l1, rfl, hc1, hm1, hi1, hr1⟩ := Go.Proofs.Ytppklhfiajjhmaa.Y.arg_slices Try.underlying61 Try.underlying22 (by kernel_rfl) o39 (hval 1 61 v1 rfl rfl) h1
  obtain ⟨a2, rfl, rfl, rfl, w2⟩ := open_int Try.underlying3 (hval 2 3 v2 rfl rfl) h2
  have b2 : I64 a2 := bounds_i64 w2
  obtain ⟨a3, rfl, rfl, rfl, w3⟩ := open_int Try.underlying3 (hval 3 3 v3 rfl rfl) h3
  have b3 : I64 a3 := bounds_i64 w3
  clear hA0 hval0 hsz0
  have hcall : Calls Try.prog 12 #[.agg #[.int .i64 a0_0, .int .i64 a0_1, .int .i64 a0_2, .int .i64 a0_3, .int .i64 a0_4], .slice A1 l1.length c1, .int .i64 a2, .int .i64 a3] W (IsTrue W) := by
    apply Ti.TilesShow_any <;> assumption
  refine hcall.mono fun e W' ⟨he, bel⟩ => ?_
  subst he
  exact ⟨_, rfl, _, _, _, [], _, [], hW', trodAll_mk1 (shut_bool Try.underlying4 _), (trodAll_cons_mk (Below.trod laidOut (by kernel_rfl) (of_decide_eq_true (by kernel_rfl)) k0 bel lt0) (trodAll_cons_mk (Below.trod laidOut (by kernel_rfl) (of_decide_eq_true (by kernel_rfl)) k1 bel lt1) (trodAll_cons_mk (Below.trod laidOut (by kernel_rfl) (of_decide_eq_true (by kernel_rfl)) k2 bel lt2) (trodAll_cons_mk (Below.trod laidOut (by kernel_rfl) (of_decide_eq_true (by kernel_rfl)) k3 bel lt3) trodAll_mk0)))), rfl, bel.frame _, fun h => by cases h⟩
theorem over : Rows.tilesShowRow.holds Try.pinned (OpenSpec.ofChange Rows.tilesShowSpec) :=
  OpenClaim.holds_of_wide 12 Try.f12 rfl rfl rfl rfl rfl rfl rfl ⟨rfl, rfl, rfl, rfl, rfl⟩ rfl rfl rfl rfl rfl (by kernel_rfl) Try.func12 (by kernel_rfl)
    (of_decide_eq_true (by kernel_rfl)) (by unfold Func.isWrapper; first | (rw [if_pos (by decide +kernel)]; kernel_rfl) | (rw [if_neg (by decide +kernel)]; exact ⟨rfl, rfl⟩))
    (fun os started H enc _ => lifted os started H enc)
theorem proved : Rows.TilesShowSaid := over
end Go.Proofs.Ytppklhfiajjhmaa.tilesShow
namespace Go.Proofs.Ytppklhfiajjhmaa
/-- The row, under a short name, for the claim. -/
theorem tilesShow_holds : Rows.TilesShowSaid := tilesShow.proved
#print axioms tilesShow_holds
end Go.Proofs.Ytppklhfiajjhmaa

