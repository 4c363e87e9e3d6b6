/- What is proved: what the document's text of the layer drop answers, in plain words. Conditions: none but those in each statement. -/
import Derived.Test.YtokdpnpldoaepaaDrR
namespace Go.Proofs.Ytokdpnpldoaepaa.Dr
open Go Go.RowKit Go.Proofs.Ytokdpnpldoaepaa.X Go.Proofs.Ytokdpnpldoaepaa.Ac
open Go.Proofs.Ytokdpnpldoaepaa.Hg (O5 restN ok5 z5 solveB_is Fit OFit ok5_fit rest_eq F_five)
set_option linter.unusedVariables false
set_option linter.unusedSimpArgs false
def DIn.zeroed (i : DIn) : DIn := ⟨i.base, i.tA, orV i.tA i.tN 0, i.mA, orV i.mA i.mN 0, i.hA, orV i.hA i.hN 0, i.qA, orV i.qA i.qN 0, i.bA, orV i.bA i.bN 0, i.around, i.want, i.stat, i.least, i.most⟩
def DIn.res (i : DIn) (sA : Bool) (sN : Int) : O5 := bif ok5 (i.zeroed.refFor sA sN) then i.zeroed.refFor sA sN else z5
def noT : Option Out := some (.tup [O5.mv z5, B false], [])
def DIn.k20 (i : DIn) (r : O5) (ok : Bool) : Option Out := bif !ok then noT else some (.tup [r.mv, B true], [])
def DIn.k18 (i : DIn) (r : O5) (ok : Bool) : Option Out := bif ok then (bif decide (r.w < i.least) then i.k20 (i.res false i.least) (ok5 (i.zeroed.refFor false i.least)) else i.k20 r ok) else i.k20 r ok
def DIn.k16 (i : DIn) (r : O5) (ok : Bool) : Option Out := bif ok then (bif decide (r.w > i.most) then i.k18 (i.res false i.most) (ok5 (i.zeroed.refFor false i.most)) else i.k18 r ok) else i.k18 r ok
def chain : List Int → Option Out → Option Out
  | [], k => k
  | n :: l, k => bif !fitsB n then noT else chain l k
def DIn.refSolveT (i : DIn) : Option Out :=
  chain [i.base, i.around, i.want, i.stat, orV i.tA i.tN 0, orV i.mA i.mN 0, orV i.hA i.hN 0, orV i.qA i.qN 0, orV i.bA i.bN 0] (i.k16 (i.res i.hA (orV i.hA i.hN 0)) (ok5 (i.zeroed.refFor i.hA (orV i.hA i.hN 0))))
end Go.Proofs.Ytokdpnpldoaepaa.Dr
