/- What is proved: nothing of its own: it joins the contracts that the law HarmBoth reaches. Conditions: none. -/
import Derived.Test.YtppklhfiajjhmaaPHarmBothx0
import Derived.Test.YtppklhfiajjhmaaPHarmBothx1
import Derived.Test.YtppklhfiajjhmaaPHarmBothx2
import Derived.Test.YtppklhfiajjhmaaMHarmBoth3
import Derived.Test.YtppklhfiajjhmaaPHarmBothx4
import Derived.Test.YtppklhfiajjhmaaMHarmBoth5
namespace Go.Proofs.Ytppklhfiajjhmaa.PHarmBoth
open Go.RowKit Go.Proofs.YtppklhfiajjhmaaW.PrintWords Go.Proofs.YtppklhfiajjhmaaW.PrintLast Go.Proofs.YtppklhfiajjhmaaW.PrintMore
attribute [local go_sem] max2_int min2_int max_two min_two max_three min_three max_four min_four   -- for this text's walks alone
set_option linter.unusedVariables false
set_option linter.unusedSimpArgs false

end Go.Proofs.Ytppklhfiajjhmaa.PHarmBoth
