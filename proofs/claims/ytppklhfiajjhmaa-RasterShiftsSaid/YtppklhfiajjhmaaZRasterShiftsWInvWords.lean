/- What is proved: texts of the law RasterShifts, written by program, anew in fewer bytes. Conditions: none but those in each statement. -/
import Derived.Test.YtppklhfiajjhmaaZRasterShiftsWInv
import Derived.Test.YtppklhfiajjhmaaZRasterShiftsWFootNe
namespace Go.Proofs.YtppklhfiajjhmaaW.PrintWords
open Go.RowKit
end Go.Proofs.YtppklhfiajjhmaaW.PrintWords
namespace Go.Proofs.YtppklhfiajjhmaaW.PrintLast
section
variable {ops : Array Oper} {a : Act} {o og : Oper} {g : Nat} {t : Tmp} {u : Bool}
end
end Go.Proofs.YtppklhfiajjhmaaW.PrintLast

