-- written by a program of this session (a turned copy of the print)
import Derived.Test.YtpoeebngkakmeaaPPileApartx0
import Derived.Test.YtpoeebngkakmeaaPPileApartx1
namespace Go.Proofs.Ytpoeebngkakmeaa.PPileApart
open Go.RowKit Go.Proofs.YtpoeebngkakmeaaW.PrintWords Go.Proofs.YtpoeebngkakmeaaW.PrintLast Go.Proofs.YtpoeebngkakmeaaW.PrintMore
attribute [local go_sem] max2_int min2_int max_two min_two max_three min_three max_four min_four   -- for this text's walks alone
set_option linter.unusedVariables false
set_option linter.unusedSimpArgs false

end Go.Proofs.Ytpoeebngkakmeaa.PPileApart
