/- What is proved: the document's text of the layer hang, carried out. Conditions: none but those in each statement. -/
import Derived.Test.YtokdpnpldoaepaaHgQ
namespace Go.Proofs.Ytokdpnpldoaepaa.Hg
open Go Go.RowKit Go.Proofs.Ytokdpnpldoaepaa.X Go.Proofs.Ytokdpnpldoaepaa.Ac
set_option linter.unusedVariables false
set_option linter.unusedSimpArgs false
set_option maxRecDepth 100000 in
set_option maxHeartbeats 4000000 in
theorem x26_0 (base : Int) (lN : Int) (pN : Int) (wA : Bool) (wN : Int) (qA : Bool) (qN : Int) (rA : Bool) (rN : Int) (around : Int) (want : Int) (stat : Int) (behind : Int) (rtl : Bool) (turned : Bool) (least : Int) (most : Int) : xfun Try.prog (EX Try.prog) R1 12 26 [HIn.mv ⟨base, false, lN, false, pN, wA, wN, qA, qN, rA, rN, around, want, stat, behind, rtl, turned, least, most⟩] [] fin = HIn.refSolveT ⟨base, false, lN, false, pN, wA, wN, qA, qN, rA, rN, around, want, stat, behind, rtl, turned, least, most⟩ := by
  cases wA <;> cases qA <;> cases rA <;> (as_aux_lemma => kernel_rfl)
end Go.Proofs.Ytokdpnpldoaepaa.Hg
