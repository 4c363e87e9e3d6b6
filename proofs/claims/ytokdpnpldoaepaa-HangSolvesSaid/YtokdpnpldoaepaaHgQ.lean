/- What is proved: what the document's text of the layer hang answers, in plain words. Conditions: none but those in each statement. -/
import Derived.Test.YtokdpnpldoaepaaHgR
namespace Go.Proofs.Ytokdpnpldoaepaa.Hg
open Go Go.RowKit Go.Proofs.Ytokdpnpldoaepaa.X Go.Proofs.Ytokdpnpldoaepaa.Ac
set_option linter.unusedVariables false
set_option linter.unusedSimpArgs false
def HIn.zeroed (i : HIn) : HIn := ⟨i.base, i.lA, orV i.lA i.lN 0, i.pA, orV i.pA i.pN 0, i.wA, orV i.wA i.wN 0, i.qA, orV i.qA i.qN 0, i.rA, orV i.rA i.rN 0, i.around, i.want, i.stat, i.behind, i.rtl, i.turned, i.least, i.most⟩
def HIn.res (i : HIn) (sA : Bool) (sN : Int) : O5 := bif ok5 (i.zeroed.refFor sA sN) then i.zeroed.refFor sA sN else z5
def noT : Option Out := some (.tup [O5.mv z5, B false], [])
def HIn.k20 (i : HIn) (r : O5) (ok : Bool) : Option Out := bif !ok then noT else some (.tup [r.mv, B true], [])
def HIn.k18 (i : HIn) (r : O5) (ok : Bool) : Option Out := bif ok then (bif decide (r.w < i.least) then i.k20 (i.res false i.least) (ok5 (i.zeroed.refFor false i.least)) else i.k20 r ok) else i.k20 r ok
def HIn.k16 (i : HIn) (r : O5) (ok : Bool) : Option Out := bif ok then (bif decide (r.w > i.most) then i.k18 (i.res false i.most) (ok5 (i.zeroed.refFor false i.most)) else i.k18 r ok) else i.k18 r ok
def chain : List Int → Option Out → Option Out
  | [], k => k
  | n :: l, k => bif !fitsB n then noT else chain l k
def HIn.refSolveT (i : HIn) : Option Out :=
  chain [i.base, i.around, i.want, i.stat, i.behind, orV i.lA i.lN 0, orV i.pA i.pN 0, orV i.wA i.wN 0, orV i.qA i.qN 0, orV i.rA i.rN 0] (i.k16 (i.res i.wA (orV i.wA i.wN 0)) (ok5 (i.zeroed.refFor i.wA (orV i.wA i.wN 0))))
end Go.Proofs.Ytokdpnpldoaepaa.Hg
