/- What is proved: nothing of its own: it joins the contracts that the law PU reaches. Conditions: none. -/
import Derived.Test.YtppklhfiajjhmaaZTilesNilPPUx0
import Derived.Test.YtppklhfiajjhmaaZTilesNilPPUx1
import Derived.Test.YtppklhfiajjhmaaZTilesNilPPUx2
import Derived.Test.YtppklhfiajjhmaaZTilesNilPPUx3
import Derived.Test.YtppklhfiajjhmaaZTilesNilPPUx4
import Derived.Test.YtppklhfiajjhmaaZTilesNilMPU5
import Derived.Test.YtppklhfiajjhmaaZTilesNilPPUx6
import Derived.Test.YtppklhfiajjhmaaZTilesNilMPU7
namespace Go.Proofs.Ytppklhfiajjhmaa.PPU
open Go.RowKit Go.Proofs.YtppklhfiajjhmaaW.PrintWords Go.Proofs.YtppklhfiajjhmaaW.PrintLast Go.Proofs.YtppklhfiajjhmaaW.PrintMore
attribute [local go_sem] max2_int min2_int max_two min_two max_three min_three max_four min_four   -- for this text's walks alone
set_option linter.unusedVariables false
set_option linter.unusedSimpArgs false

end Go.Proofs.Ytppklhfiajjhmaa.PPU
