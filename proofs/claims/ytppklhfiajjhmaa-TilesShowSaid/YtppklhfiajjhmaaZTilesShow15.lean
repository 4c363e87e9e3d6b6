/- What is proved: texts of the law TilesShow, joined by program. Conditions: none but those in each statement. -/
import Derived.Test.YtppklhfiajjhmaaZTilesShow6
import Derived.Deep.Slices
import Derived.OpenShut
import Derived.ProofKit
import Derived.SizedLaws
section
namespace Go.Proofs.Ytppklhfiajjhmaa.Opens
open Go.RowKit Go.ChangeShapes Go.WideShapes Go.Deep Go.Proofs.YtppklhfiajjhmaaW.PrintWords
section
variable {H:Type} {enc:TypeId × Value → H} {P:Program} {w:World} {base:Nat} {spare:Nat → Bool} {held:Bool} {t:TypeId} {v:Value} {dd:DataW H} {ps:List MemPlace} {r:Reach} {b0:Nat}
end
end Go.Proofs.Ytppklhfiajjhmaa.Opens
end
