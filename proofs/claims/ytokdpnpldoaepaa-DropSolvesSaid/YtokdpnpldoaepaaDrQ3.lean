/- What is proved: the document's text of the layer drop, carried out. Conditions: none but those in each statement. -/
import Derived.Test.YtokdpnpldoaepaaDrQ
namespace Go.Proofs.Ytokdpnpldoaepaa.Dr
open Go Go.RowKit Go.Proofs.Ytokdpnpldoaepaa.X Go.Proofs.Ytokdpnpldoaepaa.Ac
open Go.Proofs.Ytokdpnpldoaepaa.Hg (O5 restN ok5 z5 solveB_is Fit OFit ok5_fit rest_eq F_five)
set_option linter.unusedVariables false
set_option linter.unusedSimpArgs false
set_option maxRecDepth 100000 in
set_option maxHeartbeats 4000000 in
theorem x20_3 (base : Int) (tN : Int) (mN : Int) (hA : Bool) (hN : Int) (qA : Bool) (qN : Int) (bA : Bool) (bN : Int) (around : Int) (want : Int) (stat : Int) (least : Int) (most : Int) : xfun Try.prog (EX Try.prog) R1 11 20 [DIn.mv ⟨base, true, tN, true, mN, hA, hN, qA, qN, bA, bN, around, want, stat, least, most⟩] [] fin = DIn.refSolveT ⟨base, true, tN, true, mN, hA, hN, qA, qN, bA, bN, around, want, stat, least, most⟩ := by
  cases hA <;> cases qA <;> cases bA <;> (as_aux_lemma => kernel_rfl)
end Go.Proofs.Ytokdpnpldoaepaa.Dr
