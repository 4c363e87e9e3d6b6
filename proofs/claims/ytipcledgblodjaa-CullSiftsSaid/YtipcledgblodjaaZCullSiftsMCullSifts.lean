/- What is proved: nothing of its own: it joins the contracts that the law CullSifts reaches. Conditions: none. -/
import Derived.Test.YtipcledgblodjaaZCullSiftsPCullSiftsx0
import Derived.Test.YtipcledgblodjaaZCullSiftsPCullSiftsx1
import Derived.Test.YtipcledgblodjaaZCullSiftsPCullSiftsx2
import Derived.Test.YtipcledgblodjaaZCullSiftsMCullSifts3
import Derived.Test.YtipcledgblodjaaZCullSiftsMCullSifts4
import Derived.Test.YtipcledgblodjaaZCullSiftsMCullSifts5
import Derived.Test.YtipcledgblodjaaZCullSiftsMCullSifts6
import Derived.Test.YtipcledgblodjaaZCullSiftsMCullSifts7
import Derived.Test.YtipcledgblodjaaZCullSiftsMCullSifts8
import Derived.Test.YtipcledgblodjaaZCullSiftsMCullSifts9
import Derived.Test.YtipcledgblodjaaZCullSiftsMCullSifts10
namespace Go.Proofs.Ytipcledgblodjaa.PCullSifts
open Go.RowKit Go.Proofs.YtipcledgblodjaaW.PrintWords Go.Proofs.YtipcledgblodjaaW.PrintLast Go.Proofs.YtipcledgblodjaaW.PrintMore
attribute [local go_sem] max2_int min2_int max_two min_two max_three min_three max_four min_four   -- for this text's walks alone
set_option linter.unusedVariables false
set_option linter.unusedSimpArgs false

end Go.Proofs.Ytipcledgblodjaa.PCullSifts
