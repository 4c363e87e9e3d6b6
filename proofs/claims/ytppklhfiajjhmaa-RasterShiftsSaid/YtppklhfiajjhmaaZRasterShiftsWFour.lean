/- What is proved: texts of the law RasterShifts, written by program, anew in fewer bytes. Conditions: none but those in each statement. -/
import Derived.Test.YtppklhfiajjhmaaZRasterShiftsWTab
/-! ### 56. Four, five, six operations that may come up next, in any order -/
namespace Go.Proofs.YtppklhfiajjhmaaW.PrintLast
section
variable {P : Program} {ops : Array Oper} {Q : Exit → Act → World → Prop} {md : Region.Mode} {S : World → Prop} {ds : List Nat} {T : Bool × List (List Nat × List Nat)}
end
end Go.Proofs.YtppklhfiajjhmaaW.PrintLast

