/- What is proved: texts of the law RasterShifts, written by program, anew in fewer bytes. Conditions: none but those in each statement. -/
import Derived.Test.YtppklhfiajjhmaaZRasterShiftsPRasterShiftsx0
import Derived.Test.YtppklhfiajjhmaaZRasterShiftsPRasterShiftsx1
import Derived.Test.YtppklhfiajjhmaaZRasterShiftsPRasterShiftsx2
import Derived.Test.YtppklhfiajjhmaaZRasterShiftsPRasterShiftsx3
import Derived.Test.YtppklhfiajjhmaaZRasterShiftsPRasterShiftsx4
import Derived.Test.YtppklhfiajjhmaaZRasterShiftsPRasterShiftsx5
namespace Go.Proofs.Ytppklhfiajjhmaa.PRasterShifts
open Go.RowKit Go.Proofs.YtppklhfiajjhmaaW.PrintWords Go.Proofs.YtppklhfiajjhmaaW.PrintLast Go.Proofs.YtppklhfiajjhmaaW.PrintMore
attribute [local go_sem] max2_int min2_int max_two min_two max_three min_three max_four min_four   -- for this text's walks alone
set_option linter.unusedVariables false
set_option linter.unusedSimpArgs false

end Go.Proofs.Ytppklhfiajjhmaa.PRasterShifts
