/- What is proved: nothing of its own: it joins the contracts of the law StrutJoins. Conditions: none. -/
import Derived.Test.YtpoeebngkakmeaaPStrutJoinsx0
import Derived.Test.YtpoeebngkakmeaaPStrutJoinsx1
import Derived.Test.YtpoeebngkakmeaaPStrutJoinsx2
import Derived.Test.YtpoeebngkakmeaaMStrutJoins3
namespace Go.Proofs.Ytpoeebngkakmeaa.PStrutJoins
open Go.RowKit Go.Proofs.YtpoeebngkakmeaaW.PrintWords Go.Proofs.YtpoeebngkakmeaaW.PrintLast Go.Proofs.YtpoeebngkakmeaaW.PrintMore
attribute [local go_sem] max2_int min2_int max_two min_two max_three min_three max_four min_four   -- for this text's walks alone
set_option linter.unusedVariables false
set_option linter.unusedSimpArgs false

end Go.Proofs.Ytpoeebngkakmeaa.PStrutJoins
