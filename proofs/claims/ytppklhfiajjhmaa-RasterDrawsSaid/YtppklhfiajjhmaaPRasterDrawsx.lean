-- written by a program of this session (a turned copy of the print)
import Derived.Test.YtppklhfiajjhmaaPRasterDrawsx0
import Derived.Test.YtppklhfiajjhmaaPRasterDrawsx1
import Derived.Test.YtppklhfiajjhmaaPRasterDrawsx2
import Derived.Test.YtppklhfiajjhmaaPRasterDrawsx3
import Derived.Test.YtppklhfiajjhmaaPRasterDrawsx4
import Derived.Test.YtppklhfiajjhmaaPRasterDrawsx5
namespace Go.Proofs.Ytppklhfiajjhmaa.PRasterDraws
open Go.RowKit Go.Proofs.YtppklhfiajjhmaaW.PrintWords Go.Proofs.YtppklhfiajjhmaaW.PrintLast Go.Proofs.YtppklhfiajjhmaaW.PrintMore
attribute [local go_sem] max2_int min2_int max_two min_two max_three min_three max_four min_four   -- for this text's walks alone
set_option linter.unusedVariables false
set_option linter.unusedSimpArgs false

end Go.Proofs.Ytppklhfiajjhmaa.PRasterDraws
