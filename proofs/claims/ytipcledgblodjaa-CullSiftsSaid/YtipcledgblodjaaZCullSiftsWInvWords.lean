/- What is proved: texts of the law CullSifts, written by program, anew in fewer bytes. Conditions: none but those in each statement. -/
import Derived.Test.YtipcledgblodjaaZCullSiftsWInv
import Derived.Test.YtipcledgblodjaaZCullSiftsWFootNe
namespace Go.Proofs.YtipcledgblodjaaW.PrintWords
open Go.RowKit
end Go.Proofs.YtipcledgblodjaaW.PrintWords
namespace Go.Proofs.YtipcledgblodjaaW.PrintLast
section
variable {ops : Array Oper} {a : Act} {o og : Oper} {g : Nat} {t : Tmp} {u : Bool}
end
end Go.Proofs.YtipcledgblodjaaW.PrintLast

