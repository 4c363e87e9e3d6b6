/- What is proved: nothing of its own: it joins the contracts that the law CullOwners reaches. Conditions: none. -/
import Derived.Test.YtipcledgblodjaaPCullOwnersx0
import Derived.Test.YtipcledgblodjaaPCullOwnersx1
import Derived.Test.YtipcledgblodjaaPCullOwnersx2
import Derived.Test.YtipcledgblodjaaMCullOwners3
import Derived.Test.YtipcledgblodjaaMCullOwners4
import Derived.Test.YtipcledgblodjaaMCullOwners5
import Derived.Test.YtipcledgblodjaaMCullOwners6
import Derived.Test.YtipcledgblodjaaMCullOwners7
namespace Go.Proofs.Ytipcledgblodjaa.PCullOwners
open Go.RowKit Go.Proofs.YtipcledgblodjaaW.PrintWords Go.Proofs.YtipcledgblodjaaW.PrintLast Go.Proofs.YtipcledgblodjaaW.PrintMore
attribute [local go_sem] max2_int min2_int max_two min_two max_three min_three max_four min_four   -- for this text's walks alone
set_option linter.unusedVariables false
set_option linter.unusedSimpArgs false

end Go.Proofs.Ytipcledgblodjaa.PCullOwners
