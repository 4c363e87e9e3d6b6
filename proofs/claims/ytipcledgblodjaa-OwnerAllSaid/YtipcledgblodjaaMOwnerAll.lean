/- What is proved: nothing of its own: it joins the contracts that the law OwnerAll reaches. Conditions: none. -/
import Derived.Test.YtipcledgblodjaaPOwnerAllx0
import Derived.Test.YtipcledgblodjaaPOwnerAllx1
import Derived.Test.YtipcledgblodjaaMOwnerAll2
namespace Go.Proofs.Ytipcledgblodjaa.POwnerAll
open Go.RowKit Go.Proofs.YtipcledgblodjaaW.PrintWords Go.Proofs.YtipcledgblodjaaW.PrintLast Go.Proofs.YtipcledgblodjaaW.PrintMore
attribute [local go_sem] max2_int min2_int max_two min_two max_three min_three max_four min_four   -- for this text's walks alone
set_option linter.unusedVariables false
set_option linter.unusedSimpArgs false

end Go.Proofs.Ytipcledgblodjaa.POwnerAll
