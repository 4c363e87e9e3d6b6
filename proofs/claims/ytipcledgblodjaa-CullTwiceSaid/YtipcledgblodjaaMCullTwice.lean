/- What is proved: nothing of its own: it joins the contracts that the law CullTwice reaches. Conditions: none. -/
import Derived.Test.YtipcledgblodjaaPCullTwicex0
import Derived.Test.YtipcledgblodjaaPCullTwicex1
import Derived.Test.YtipcledgblodjaaPCullTwicex2
import Derived.Test.YtipcledgblodjaaMCullTwice3
import Derived.Test.YtipcledgblodjaaMCullTwice4
import Derived.Test.YtipcledgblodjaaMCullTwice5
import Derived.Test.YtipcledgblodjaaMCullTwice6
import Derived.Test.YtipcledgblodjaaMCullTwice7
import Derived.Test.YtipcledgblodjaaMCullTwice8
import Derived.Test.YtipcledgblodjaaMCullTwice9
namespace Go.Proofs.Ytipcledgblodjaa.PCullTwice
open Go.RowKit Go.Proofs.YtipcledgblodjaaW.PrintWords Go.Proofs.YtipcledgblodjaaW.PrintLast Go.Proofs.YtipcledgblodjaaW.PrintMore
attribute [local go_sem] max2_int min2_int max_two min_two max_three min_three max_four min_four   -- for this text's walks alone
set_option linter.unusedVariables false
set_option linter.unusedSimpArgs false

end Go.Proofs.Ytipcledgblodjaa.PCullTwice
