-- PRINTED BY print.sh 35421559b90ae4d0a3588c463048766b98c2df88dd9212a6774a882060cdf62d: not written by this session
import Derived.Test.YtipcledgblodjaaPCoverJoinsx0
import Derived.Test.YtipcledgblodjaaPCoverJoinsx1
import Derived.Test.YtipcledgblodjaaPCoverJoinsx2
import Derived.Test.YtipcledgblodjaaPCoverJoinsx3
import Derived.Test.YtipcledgblodjaaPCoverJoinsx4
import Derived.Test.YtipcledgblodjaaPCoverJoinsx5
import Derived.Test.YtipcledgblodjaaPCoverJoinsx6
import Derived.Test.YtipcledgblodjaaPCoverJoinsx7
namespace Go.Proofs.Ytipcledgblodjaa.PCoverJoins
open Go.RowKit Go.Proofs.YtipcledgblodjaaW.PrintWords Go.Proofs.YtipcledgblodjaaW.PrintLast Go.Proofs.YtipcledgblodjaaW.PrintMore
attribute [local go_sem] max2_int min2_int max_two min_two max_three min_three max_four min_four   -- for this text's walks alone
set_option linter.unusedVariables false
set_option linter.unusedSimpArgs false

end Go.Proofs.Ytipcledgblodjaa.PCoverJoins
