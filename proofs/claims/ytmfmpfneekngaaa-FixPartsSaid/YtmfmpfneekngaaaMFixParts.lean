/- What is proved: nothing of its own: it joins the contracts that the law FixParts reaches. Conditions: none. -/
import Derived.Test.YtmfmpfneekngaaaMFixParts0
import Derived.Test.YtmfmpfneekngaaaMFixParts1
import Derived.Test.YtmfmpfneekngaaaMFixParts2
import Derived.Test.YtmfmpfneekngaaaMFixParts3
namespace Go.Proofs.Ytmfmpfneekngaaa.PFixParts
open Go.RowKit Go.Proofs.YtmfmpfneekngaaaW.PrintWords Go.Proofs.YtmfmpfneekngaaaW.PrintLast Go.Proofs.YtmfmpfneekngaaaW.PrintMore
attribute [local go_sem] max2_int min2_int max_two min_two max_three min_three max_four min_four   -- for this text's walks alone
set_option linter.unusedVariables false
set_option linter.unusedSimpArgs false

end Go.Proofs.Ytmfmpfneekngaaa.PFixParts
