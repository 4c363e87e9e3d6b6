/- What is proved: the statement on sizes of four sides, called with whatever sizes, answers true and turns nothing that was there. Conditions: none but those in each statement. -/
import Derived.Test.YtpoeebngkakmeaaSzB
import Derived.Test.YtpoeebngkakmeaaAskWords
namespace Go.Proofs.Ytpoeebngkakmeaa.SzL
open Go Go.RowKit Go.Proofs.Ytpoeebngkakmeaa.X Go.Proofs.Ytpoeebngkakmeaa.Nu Go.Proofs.Ytpoeebngkakmeaa.Sz Go.Proofs.Ytpoeebngkakmeaa.AskWords
theorem SizeSides_any (k0 n0 k1 n1 k2 n2 k3 n3 base : Int) (W : World) :
    Calls Try.prog 14 #[.agg #[.int .i64 k0, .int .i64 n0, .int .i64 k1, .int .i64 n1, .int .i64 k2, .int .i64 n2, .int .i64 k3, .int .i64 n3], .int .i64 base] W (IsTrue W) :=
  call_of (EX_ok _) Sz.L1_ok mixed (us := [_, _]) rfl rfl (SizeSides_x k0 n0 k1 n1 k2 n2 k3 n3 base) W
end Go.Proofs.Ytpoeebngkakmeaa.SzL
