/- What is proved: contracts of functions that the law FixParts reaches, written by program. Conditions: none but those in each statement. -/
import Derived.Test.YtmfmpfneekngaaaProg
import Derived.Below
import Derived.Deep.Draws
import Derived.Deep.AppendLies
import Derived.Maps.AppendAt
import Derived.OwnWalk
import Derived.Laws.BytesArg
import Derived.Laws.MakeOwn
import Derived.Laws.OwnMore
import Derived.Deep.OwnRows
import Derived.Tactics
import Derived.Lib.ConvBytes
import Derived.Laws.Slices
import Derived.WalkKit
import Derived.KernelRfl
import Derived.RowKit3
import Derived.Deep.LoopGhost
import Derived.Deep.QuietTactic
import Derived.BigQuiet
import Derived.WideLaws
import Derived.Deep.DeepCutAuto
import Derived.Deep.CutBlock
import Derived.Deep.RegionHeld3
import Derived.Laws.Rows
import Derived.Lib.AppendStr
import Derived.ArgAppend
import Derived.Laws.IdiomCopy
import Derived.OrdersHeld
import Derived.Laws.BitsLemmas
import Derived.RowKit
import Derived.Test.YtmfmpfneekngaaaWWords
import Derived.Test.YtmfmpfneekngaaaWLast
import Derived.Test.YtmfmpfneekngaaaWTab
import Derived.Test.YtmfmpfneekngaaaWFour
import Derived.Test.YtmfmpfneekngaaaWQPut
import Derived.Test.YtmfmpfneekngaaaWApart
import Derived.Test.YtmfmpfneekngaaaWArr
import Derived.Test.YtmfmpfneekngaaaWZeros
import Derived.Test.YtmfmpfneekngaaaWFoot
import Derived.Test.YtmfmpfneekngaaaWKept
import Derived.Test.YtmfmpfneekngaaaWShare
import Derived.Test.YtmfmpfneekngaaaWN
import Derived.Test.YtmfmpfneekngaaaWFootNe
import Derived.Test.YtmfmpfneekngaaaWAt
import Derived.Test.YtmfmpfneekngaaaWEqStruct
import Derived.Test.YtmfmpfneekngaaaWRepsOne
import Derived.Test.YtmfmpfneekngaaaWInv
import Derived.Test.YtmfmpfneekngaaaWInvWords
import Derived.Test.YtmfmpfneekngaaaWGuard
import Derived.Test.YtmfmpfneekngaaaWNEv
import Derived.Test.YtmfmpfneekngaaaWMore
namespace Go.Proofs.Ytmfmpfneekngaaa.PFixParts
open Go.RowKit Go.Proofs.YtmfmpfneekngaaaW.PrintWords Go.Proofs.YtmfmpfneekngaaaW.PrintLast Go.Proofs.YtmfmpfneekngaaaW.PrintMore
attribute [local go_sem] max2_int min2_int max_two min_two max_three min_three max_four min_four   -- for this text's walks alone
set_option linter.unusedVariables false
set_option linter.unusedSimpArgs false



def errW : Option Int → Value
  | none => .nilIface
  | some c => .iface 0 (.int .i64 c)
theorem errW_none : errW none = .nilIface := rfl
theorem errW_some (c : Int) : errW (some c) = .iface 0 (.int .i64 c) := rfl

-- the values' own types

end Go.Proofs.Ytmfmpfneekngaaa.PFixParts
