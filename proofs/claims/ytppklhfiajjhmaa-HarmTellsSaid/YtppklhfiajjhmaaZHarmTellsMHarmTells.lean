/- What is proved: nothing of its own: it joins the contracts that the law HarmTells reaches. Conditions: none. -/
import Derived.Test.YtppklhfiajjhmaaZHarmTellsPHarmTellsx0
import Derived.Test.YtppklhfiajjhmaaZHarmTellsPHarmTellsx1
import Derived.Test.YtppklhfiajjhmaaZHarmTellsPHarmTellsx2
import Derived.Test.YtppklhfiajjhmaaZHarmTellsPHarmTellsx3
import Derived.Test.YtppklhfiajjhmaaZHarmTellsMHarmTells4
import Derived.Test.YtppklhfiajjhmaaZHarmTellsPHarmTellsx5
import Derived.Test.YtppklhfiajjhmaaZHarmTellsMHarmTells6
import Derived.Test.YtppklhfiajjhmaaZHarmTellsMHarmTells7
import Derived.Test.YtppklhfiajjhmaaZHarmTellsPHarmTellsx8
import Derived.Test.YtppklhfiajjhmaaZHarmTellsPHarmTellsx9
import Derived.Test.YtppklhfiajjhmaaZHarmTellsPHarmTellsx10
import Derived.Test.YtppklhfiajjhmaaZHarmTellsPHarmTellsx11
import Derived.Test.YtppklhfiajjhmaaZHarmTellsMHarmTells12
namespace Go.Proofs.Ytppklhfiajjhmaa.PHarmTells
open Go.RowKit Go.Proofs.YtppklhfiajjhmaaW.PrintWords Go.Proofs.YtppklhfiajjhmaaW.PrintLast Go.Proofs.YtppklhfiajjhmaaW.PrintMore
attribute [local go_sem] max2_int min2_int max_two min_two max_three min_three max_four min_four   -- for this text's walks alone
set_option linter.unusedVariables false
set_option linter.unusedSimpArgs false

end Go.Proofs.Ytppklhfiajjhmaa.PHarmTells
