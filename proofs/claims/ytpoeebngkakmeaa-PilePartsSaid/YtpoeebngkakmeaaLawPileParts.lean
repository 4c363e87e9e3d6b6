/- What is proved: 'PileParts' (the law of that name): for every input the call returns true, and each argument reads afterwards as it read before. Conditions: none but the given row's own. -/
import Derived.Test.YtpoeebngkakmeaaRows
import Derived.Test.YtpoeebngkakmeaaPPilePartsx
import Derived.Test.YtpoeebngkakmeaaPurePileParts
import Derived.Test.YtpoeebngkakmeaaOpens
import Derived.WalkKit
import Derived.ProofKit
import Derived.OpenShut
import Derived.ShutString
import Derived.ChangeOld
import Derived.Below
import Derived.SizedLaws
namespace Go.Proofs.Ytpoeebngkakmeaa.pileParts
open Go.ChangeShapes Go.WideShapes Go.ChangeAt Go.RowKit Go.Proofs.Ytpoeebngkakmeaa.Opens Go.Proofs.YtpoeebngkakmeaaW.PrintWords
set_option linter.unusedVariables false
theorem own : ownKnob Try.prog.godebug = none := by kernel_rfl
theorem laidOut : laidOutB Try.prog = true := by kernel_rfl
theorem o2 : Opens Try.prog 2 (Kd.int .i64) I64 := opens_i64 Try.underlying2 (by kernel_rfl)
instance : Inhabited PPileParts.S44 := ⟨PPileParts.z44⟩
theorem o44 : Opens Try.prog 44 PPileParts.k44 Pure.Q44 := opens_struct (g := (fun y => (⟨y.1, y.2⟩ : PPileParts.S44))) Try.underlying44 (by kernel_rfl) (fun _ => rfl) (fo_cons rfl rfl o2 (fo_last (f := _) rfl rfl (by rfl) o2))
theorem o4 : Opens Try.prog 4 Kd.bool (fun _ => True) := opens_bool Try.underlying4 (by kernel_rfl)
instance : Inhabited PPileParts.S64 := ⟨PPileParts.z64⟩
theorem o64 : Opens Try.prog 64 PPileParts.k64 Pure.Q64 := opens_struct (g := (fun y => (⟨y.1, y.2.1, y.2.2.1, y.2.2.2.1, y.2.2.2.2⟩ : PPileParts.S64))) Try.underlying64 (by kernel_rfl) (fun _ => rfl) (fo_cons rfl rfl o44 (fo_cons rfl rfl o44 (fo_cons rfl rfl o44 (fo_cons rfl rfl o4 (fo_last (f := _) rfl rfl (by rfl) o2)))))
set_option maxRecDepth 100000 in
theorem lifted (os : Os) (started : os.Started) (H : Type) (enc : TypeId × Value → H) :
    ReturnsInHanded {} Try.checked os 10 .any (Rows.pilePartsSpec.pre6 enc Try.prog Try.f10 Rows.pilePartsRow.domain false) (Rows.pilePartsSpec.post enc Try.prog Try.f10 false true false false) := by
  refine returnsInHanded_of_change_sized (C := Try.checked) own started (by kernel_rfl) Try.func10
    (ChangeSpec.witness6 (enc := enc) (C := Try.checked) false ⟨#[], #[.slice none 0 0, .slice none 0 0], []⟩ 8 (by kernel_rfl) (by kernel_rfl) (by kernel_rfl) (by kernel_rfl)) ?_
  intro W base args ds gs before hval0 hW hcnd hsz0 _
  have hval : ∀ (j : Nat) t v, Try.f10.params[j]? = some t → args[j]? = some v → Value.okWide Try.prog W .any base t v := hval0
  have hW' := hW
  obtain ⟨p, q, hA0, hV, rfl, hfz, hnd⟩ := hW
  have hA : DataW.TrodAll enc Try.prog W 0 (fun _ => true) true Try.f10.params.toList args.toList ds p := hA0
  rw [Try.params10] at hA hval
  obtain ⟨v0, vs0, d0, ds0, p0, q0, hargs, rfl, rfl, h0, r0⟩ := trodAll_cons hA
  obtain ⟨v1, vs1, d1, ds1, p1, q1, rfl, rfl, rfl, h1, r1⟩ := trodAll_cons r0
  obtain ⟨rfl, rfl, rfl⟩ := trodAll_nil r1
  obtain rfl : args = #[v0, v1] := by cases args; simp_all
  obtain ⟨rfl, rfl⟩ := trodVars_none hV
  have k0 := h0
  have lt0 : ∀ x ∈ p0, x.block < W.heap.size := by obtain ⟨m, hm⟩ := k0; exact DataW.trod_lt m _ _ _ hm
  have k1 := h1
  have lt1 : ∀ x ∈ p1, x.block < W.heap.size := by obtain ⟨m, hm⟩ := k1; exact DataW.trod_lt m _ _ _ hm
  obtain ⟨A0, c0, l0, rfl, hc0, hr0, q0_⟩ := arg_slice Try.underlying58 (by kernel_rfl) o64 (hval 0 58 v0 rfl rfl) h0
  obtain ⟨A1, c1, l1, rfl, hc1, hr1, q1_⟩ := arg_slice Try.underlying58 (by kernel_rfl) o64 (hval 1 58 v1 rfl rfl) h1
  clear hA0 hval0 hsz0
  obtain ⟨k, hpure⟩ := Pure.PileParts l0 l1 q0_ q1_
  refine (PPileParts.decoupagelaw12_PileParts.calls k A0 c0 l0 A1 c1 l1 true W hr0 hc0 hr1 hc1 hpure).mono fun e W' ⟨he, bel⟩ => ?_
  subst he
  exact ⟨_, rfl, _, _, _, [], _, [], hW', trodAll_mk1 (shut_bool Try.underlying4 _), (trodAll_cons_mk (Below.trod laidOut (by kernel_rfl) (of_decide_eq_true (by kernel_rfl)) k0 bel lt0) (trodAll_cons_mk (Below.trod laidOut (by kernel_rfl) (of_decide_eq_true (by kernel_rfl)) k1 bel lt1) trodAll_mk0)), rfl, bel.frame _, fun h => by cases h⟩
theorem over : Rows.pilePartsRow.holds Try.pinned (OpenSpec.ofChange Rows.pilePartsSpec) :=
  OpenClaim.holds_of_wide 10 Try.f10 rfl rfl rfl rfl rfl rfl rfl ⟨rfl, rfl, rfl, rfl, rfl⟩ rfl rfl rfl rfl rfl (by kernel_rfl) Try.func10 (by kernel_rfl)
    (of_decide_eq_true (by kernel_rfl)) (by unfold Func.isWrapper; first | (rw [if_pos (by decide +kernel)]; kernel_rfl) | (rw [if_neg (by decide +kernel)]; exact ⟨rfl, rfl⟩))
    (fun os started H enc _ => lifted os started H enc)
theorem proved : Rows.PilePartsSaid := over
end Go.Proofs.Ytpoeebngkakmeaa.pileParts
namespace Go.Proofs.Ytpoeebngkakmeaa
/-- The row, under a short name, for the claim. -/
theorem pileParts_holds : Rows.PilePartsSaid := pileParts.proved
#print axioms pileParts_holds
end Go.Proofs.Ytpoeebngkakmeaa
