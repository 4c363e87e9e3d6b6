/- What is proved: nothing of its own: it joins the contracts that the law CullTells reaches. Conditions: none. -/
import Derived.Test.YtipcledgblodjaaPCullTellsx0
import Derived.Test.YtipcledgblodjaaPCullTellsx1
import Derived.Test.YtipcledgblodjaaPCullTellsx2
import Derived.Test.YtipcledgblodjaaMCullTells3
import Derived.Test.YtipcledgblodjaaMCullTells4
import Derived.Test.YtipcledgblodjaaMCullTells5
import Derived.Test.YtipcledgblodjaaMCullTells6
import Derived.Test.YtipcledgblodjaaMCullTells7
import Derived.Test.YtipcledgblodjaaMCullTells8
import Derived.Test.YtipcledgblodjaaMCullTells9
namespace Go.Proofs.Ytipcledgblodjaa.PCullTells
open Go.RowKit Go.Proofs.YtipcledgblodjaaW.PrintWords Go.Proofs.YtipcledgblodjaaW.PrintLast Go.Proofs.YtipcledgblodjaaW.PrintMore
attribute [local go_sem] max2_int min2_int max_two min_two max_three min_three max_four min_four   -- for this text's walks alone
set_option linter.unusedVariables false
set_option linter.unusedSimpArgs false

end Go.Proofs.Ytipcledgblodjaa.PCullTells
