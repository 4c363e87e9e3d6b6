/- What is proved: texts of the law TilesShow, joined by program. Conditions: none but those in each statement. -/
import Derived.WalkKit
import Derived.Below
import Derived.WalkSmall
import Derived.Handy
import Derived.Lib.Hide
section
namespace Go.Proofs.Ytppklhfiajjhmaa.AskWords
open Go.RowKit
set_option linter.unusedVariables false
set_option linter.unusedSimpArgs false
def IsTrue (w:World) (e:Ending) (w':World):Prop:=e = .returned (.bool true) ∧ Below w.heap.size w w'
end Go.Proofs.Ytppklhfiajjhmaa.AskWords
end
