/- What is proved: nothing of its own: it joins the contracts that the law OwnerTells reaches. Conditions: none. -/
import Derived.Test.YtipcledgblodjaaPOwnerTellsx0
import Derived.Test.YtipcledgblodjaaPOwnerTellsx1
import Derived.Test.YtipcledgblodjaaPOwnerTellsx2
import Derived.Test.YtipcledgblodjaaPOwnerTellsx3
import Derived.Test.YtipcledgblodjaaPOwnerTellsx4
import Derived.Test.YtipcledgblodjaaMOwnerTells5
namespace Go.Proofs.Ytipcledgblodjaa.POwnerTells
open Go.RowKit Go.Proofs.YtipcledgblodjaaW.PrintWords Go.Proofs.YtipcledgblodjaaW.PrintLast Go.Proofs.YtipcledgblodjaaW.PrintMore
attribute [local go_sem] max2_int min2_int max_two min_two max_three min_three max_four min_four   -- for this text's walks alone
set_option linter.unusedVariables false
set_option linter.unusedSimpArgs false

end Go.Proofs.Ytipcledgblodjaa.POwnerTells
