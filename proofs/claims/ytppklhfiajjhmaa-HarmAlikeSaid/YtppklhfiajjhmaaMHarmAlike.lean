/- What is proved: nothing of its own: it joins the contracts that the law HarmAlike reaches. Conditions: none. -/
import Derived.Test.YtppklhfiajjhmaaPHarmAlikex0
import Derived.Test.YtppklhfiajjhmaaPHarmAlikex1
import Derived.Test.YtppklhfiajjhmaaPHarmAlikex2
import Derived.Test.YtppklhfiajjhmaaPHarmAlikex3
import Derived.Test.YtppklhfiajjhmaaMHarmAlike4
import Derived.Test.YtppklhfiajjhmaaPHarmAlikex5
import Derived.Test.YtppklhfiajjhmaaMHarmAlike6
namespace Go.Proofs.Ytppklhfiajjhmaa.PHarmAlike
open Go.RowKit Go.Proofs.YtppklhfiajjhmaaW.PrintWords Go.Proofs.YtppklhfiajjhmaaW.PrintLast Go.Proofs.YtppklhfiajjhmaaW.PrintMore
attribute [local go_sem] max2_int min2_int max_two min_two max_three min_three max_four min_four   -- for this text's walks alone
set_option linter.unusedVariables false
set_option linter.unusedSimpArgs false

end Go.Proofs.Ytppklhfiajjhmaa.PHarmAlike
