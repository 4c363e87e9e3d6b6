/- What is proved: 'TilesNil' (the law of that name): for every input the call returns true, and each argument reads afterwards as it read before. Conditions: none but the given row's own. -/
import Derived.Test.YtppklhfiajjhmaaRows
import Derived.Test.YtppklhfiajjhmaaZTilesNilUiC
import Derived.Test.YtppklhfiajjhmaaZTilesNilReads
import Derived.WalkKit
import Derived.ProofKit
import Derived.OpenShut
import Derived.ShutString
import Derived.ChangeOld
import Derived.Below
import Derived.SizedLaws
namespace Go.Proofs.Ytppklhfiajjhmaa.tilesNil
open Go.ChangeShapes Go.WideShapes Go.ChangeAt Go.RowKit Go.Proofs.Ytppklhfiajjhmaa.Reads Go.Proofs.Ytppklhfiajjhmaa.AskWords
set_option linter.unusedVariables false
theorem own : ownKnob Try.prog.godebug = none := by kernel_rfl
theorem laidOut : laidOutB Try.prog = true := by kernel_rfl
theorem o3 : Opens Try.prog 3 [isI64] := opens_i64 Try.underlying3 (by kernel_rfl)
theorem o2 : Opens Try.prog 2 [isI64] := opens_i64 Try.underlying2 (by kernel_rfl)
theorem o37 : Opens Try.prog 37 [isI64, isI64, isI64, isI64] := opens_struct Try.underlying37 (by kernel_rfl) (fo_cons rfl rfl o2 (fo_cons rfl rfl o2 (fo_cons rfl rfl o2 (fo_last (f := _) rfl rfl (by rfl) o2) rfl) rfl) rfl)
theorem o39 : Opens Try.prog 39 [isI64, isI64, isI64, isI64, isI64, isI64, isI64, isI64, isI64, isI64, isI64, isI64, isI64, isI64, isI64] := opens_struct Try.underlying39 (by kernel_rfl) (fo_cons rfl rfl o3 (fo_cons rfl rfl o3 (fo_cons rfl rfl o37 (fo_cons rfl rfl o37 (fo_cons rfl rfl o37 (fo_last (f := _) rfl rfl (by rfl) o2) rfl) rfl) rfl) rfl) rfl)
set_option maxRecDepth 100000 in
theorem lifted (os : Os) (started : os.Started) (H : Type) (enc : TypeId × Value → H) :
    ReturnsInHanded {} Try.checked os 13 .any (Rows.tilesNilSpec.pre6 enc Try.prog Try.f13 Rows.tilesNilRow.domain false) (Rows.tilesNilSpec.post enc Try.prog Try.f13 false true false false) := by
  refine returnsInHanded_of_change_sized (C := Try.checked) own started (by kernel_rfl) Try.func13
    (ChangeSpec.witness6 (enc := enc) (C := Try.checked) false ⟨#[], #[.slice none 0 0, .int .i64 0, .int .i64 0], []⟩ 8 (by kernel_rfl) (by kernel_rfl) (by kernel_rfl) (by kernel_rfl)) ?_
  intro W base args ds gs before hval0 hW hcnd hsz0 _
  have hval : ∀ (j : Nat) t v, Try.f13.params[j]? = some t → args[j]? = some v → Value.okWide Try.prog W .any base t v := hval0
  have hW' := hW
  obtain ⟨p, q, hA0, hV, rfl, hfz, hnd⟩ := hW
  have hA : DataW.TrodAll enc Try.prog W 0 (fun _ => true) true Try.f13.params.toList args.toList ds p := hA0
  rw [Try.params13] at hA hval
  obtain ⟨v0, vs0, d0, ds0, p0, q0, hargs, rfl, rfl, h0, r0⟩ := trodAll_cons hA
  obtain ⟨v1, vs1, d1, ds1, p1, q1, rfl, rfl, rfl, h1, r1⟩ := trodAll_cons r0
  obtain ⟨v2, vs2, d2, ds2, p2, q2, rfl, rfl, rfl, h2, r2⟩ := trodAll_cons r1
  obtain ⟨rfl, rfl, rfl⟩ := trodAll_nil r2
  obtain rfl : args = #[v0, v1, v2] := by cases args; simp_all
  obtain ⟨rfl, rfl⟩ := trodVars_none hV
  have k0 := h0
  have lt0 : ∀ x ∈ p0, x.block < W.heap.size := by obtain ⟨m, hm⟩ := k0; exact DataW.trod_lt m _ _ _ hm
  have k1 := h1
  have lt1 : ∀ x ∈ p1, x.block < W.heap.size := by obtain ⟨m, hm⟩ := k1; exact DataW.trod_lt m _ _ _ hm
  have k2 := h2
  have lt2 : ∀ x ∈ p2, x.block < W.heap.size := by obtain ⟨m, hm⟩ := k2; exact DataW.trod_lt m _ _ _ hm
  obtain ⟨A0, c0, l0, rfl, hc0, hm0, hr0⟩ := arg_slice Try.underlying22 o39 (hval 0 22 v0 rfl rfl) h0
  obtain ⟨a1, rfl, rfl, rfl, w1⟩ := open_int Try.underlying3 (hval 1 3 v1 rfl rfl) h1
  have b1 : I64 a1 := bounds_i64 w1
  obtain ⟨a2, rfl, rfl, rfl, w2⟩ := open_int Try.underlying3 (hval 2 3 v2 rfl rfl) h2
  have b2 : I64 a2 := bounds_i64 w2
  clear hA0 hval0 hsz0
  have hcall : Calls Try.prog 13 #[.slice A0 l0.length c0, .int .i64 a1, .int .i64 a2] W (IsTrue W) := by
    apply Ti.TilesNil_any <;> assumption
  refine hcall.mono fun e W' ⟨he, bel⟩ => ?_
  subst he
  exact ⟨_, rfl, _, _, _, [], _, [], hW', trodAll_mk1 (shut_bool Try.underlying4 _), (trodAll_cons_mk (Below.trod laidOut (by kernel_rfl) (of_decide_eq_true (by kernel_rfl)) k0 bel lt0) (trodAll_cons_mk (Below.trod laidOut (by kernel_rfl) (of_decide_eq_true (by kernel_rfl)) k1 bel lt1) (trodAll_cons_mk (Below.trod laidOut (by kernel_rfl) (of_decide_eq_true (by kernel_rfl)) k2 bel lt2) trodAll_mk0))), rfl, bel.frame _, fun h => by cases h⟩
theorem over : Rows.tilesNilRow.holds Try.pinned (OpenSpec.ofChange Rows.tilesNilSpec) :=
  OpenClaim.holds_of_wide 13 Try.f13 rfl rfl rfl rfl rfl rfl rfl ⟨rfl, rfl, rfl, rfl, rfl⟩ rfl rfl rfl rfl rfl (by kernel_rfl) Try.func13 (by kernel_rfl)
    (of_decide_eq_true (by kernel_rfl)) (by unfold Func.isWrapper; first | (rw [if_pos (by decide +kernel)]; kernel_rfl) | (rw [if_neg (by decide +kernel)]; exact ⟨rfl, rfl⟩))
    (fun os started H enc _ => lifted os started H enc)
theorem proved : Rows.TilesNilSaid := over
end Go.Proofs.Ytppklhfiajjhmaa.tilesNil
namespace Go.Proofs.Ytppklhfiajjhmaa
/-- The row, under a short name, for the claim. -/
theorem tilesNil_holds : Rows.TilesNilSaid := tilesNil.proved
#print axioms tilesNil_holds
end Go.Proofs.Ytppklhfiajjhmaa
