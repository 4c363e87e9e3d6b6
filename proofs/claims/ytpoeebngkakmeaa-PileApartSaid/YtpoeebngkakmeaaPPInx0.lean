-- written by a program of this session (a turned copy of the print)
import Derived.Test.YtpoeebngkakmeaaProg
import Derived.Below
import Derived.Deep.Draws
import Derived.Deep.AppendLies
import Derived.Maps.AppendAt
import Derived.OwnWalk
import Derived.Laws.BytesArg
import Derived.Laws.MakeOwn
import Derived.Laws.OwnMore
import Derived.Deep.OwnRows
import Derived.Tactics
import Derived.Lib.ConvBytes
import Derived.Laws.Slices
import Derived.WalkKit
import Derived.KernelRfl
import Derived.RowKit3
import Derived.Deep.LoopGhost
import Derived.Deep.QuietTactic
import Derived.BigQuiet
import Derived.WideLaws
import Derived.Deep.DeepCutAuto
import Derived.Deep.CutBlock
import Derived.Deep.RegionHeld3
import Derived.Laws.Rows
import Derived.Lib.AppendStr
import Derived.ArgAppend
import Derived.Laws.IdiomCopy
import Derived.OrdersHeld
import Derived.Laws.BitsLemmas
import Derived.RowKit
import Derived.Test.YtpoeebngkakmeaaWWords
import Derived.Test.YtpoeebngkakmeaaWLast
import Derived.Test.YtpoeebngkakmeaaWTab
import Derived.Test.YtpoeebngkakmeaaWFour
import Derived.Test.YtpoeebngkakmeaaWQPut
import Derived.Test.YtpoeebngkakmeaaWApart
import Derived.Test.YtpoeebngkakmeaaWArr
import Derived.Test.YtpoeebngkakmeaaWZeros
import Derived.Test.YtpoeebngkakmeaaWFoot
import Derived.Test.YtpoeebngkakmeaaWKept
import Derived.Test.YtpoeebngkakmeaaWShare
import Derived.Test.YtpoeebngkakmeaaWN
import Derived.Test.YtpoeebngkakmeaaWFootNe
import Derived.Test.YtpoeebngkakmeaaWAt
import Derived.Test.YtpoeebngkakmeaaWEqStruct
import Derived.Test.YtpoeebngkakmeaaWRepsOne
import Derived.Test.YtpoeebngkakmeaaWInv
import Derived.Test.YtpoeebngkakmeaaWInvWords
import Derived.Test.YtpoeebngkakmeaaWGuard
import Derived.Test.YtpoeebngkakmeaaWNEv
import Derived.Test.YtpoeebngkakmeaaWMore
namespace Go.Proofs.Ytpoeebngkakmeaa.PPIn
open Go.RowKit Go.Proofs.YtpoeebngkakmeaaW.PrintWords Go.Proofs.YtpoeebngkakmeaaW.PrintLast Go.Proofs.YtpoeebngkakmeaaW.PrintMore
attribute [local go_sem] max2_int min2_int max_two min_two max_three min_three max_four min_four   -- for this text's walks alone
set_option linter.unusedVariables false
set_option linter.unusedSimpArgs false



def errW : Option Int → Value
  | none => .nilIface
  | some c => .iface 0 (.int .i64 c)
theorem errW_none : errW none = .nilIface := rfl
theorem errW_some (c : Int) : errW (some c) = .iface 0 (.int .i64 c) := rfl

theorem info2 : (Try.prog.info? 2).map (fun i => (i.zero, i.size, i.bytes)) = some (some (.int .i64 0), 1, 8) := by kernel_rfl
-- the values' own types

end Go.Proofs.Ytpoeebngkakmeaa.PPIn
