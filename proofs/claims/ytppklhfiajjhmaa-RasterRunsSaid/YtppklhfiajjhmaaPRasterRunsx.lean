-- written by a program of this session (a turned copy of the print)
import Derived.Test.YtppklhfiajjhmaaPRasterRunsx0
import Derived.Test.YtppklhfiajjhmaaPRasterRunsx1
import Derived.Test.YtppklhfiajjhmaaPRasterRunsx2
import Derived.Test.YtppklhfiajjhmaaPRasterRunsx3
import Derived.Test.YtppklhfiajjhmaaPRasterRunsx4
namespace Go.Proofs.Ytppklhfiajjhmaa.PRasterRuns
open Go.RowKit Go.Proofs.YtppklhfiajjhmaaW.PrintWords Go.Proofs.YtppklhfiajjhmaaW.PrintLast Go.Proofs.YtppklhfiajjhmaaW.PrintMore
attribute [local go_sem] max2_int min2_int max_two min_two max_three min_three max_four min_four   -- for this text's walks alone
set_option linter.unusedVariables false
set_option linter.unusedSimpArgs false

end Go.Proofs.Ytppklhfiajjhmaa.PRasterRuns
