/- What is proved: nothing of its own: it joins the contracts that the law HarmBounds reaches. Conditions: none. -/
import Derived.Test.YtppklhfiajjhmaaPHarmBoundsx0
import Derived.Test.YtppklhfiajjhmaaPHarmBoundsx1
import Derived.Test.YtppklhfiajjhmaaPHarmBoundsx2
import Derived.Test.YtppklhfiajjhmaaMHarmBounds3
import Derived.Test.YtppklhfiajjhmaaPHarmBoundsx4
import Derived.Test.YtppklhfiajjhmaaMHarmBounds5
import Derived.Test.YtppklhfiajjhmaaMHarmBounds6
namespace Go.Proofs.Ytppklhfiajjhmaa.PHarmBounds
open Go.RowKit Go.Proofs.YtppklhfiajjhmaaW.PrintWords Go.Proofs.YtppklhfiajjhmaaW.PrintLast Go.Proofs.YtppklhfiajjhmaaW.PrintMore
attribute [local go_sem] max2_int min2_int max_two min_two max_three min_three max_four min_four   -- for this text's walks alone
set_option linter.unusedVariables false
set_option linter.unusedSimpArgs false

end Go.Proofs.Ytppklhfiajjhmaa.PHarmBounds
