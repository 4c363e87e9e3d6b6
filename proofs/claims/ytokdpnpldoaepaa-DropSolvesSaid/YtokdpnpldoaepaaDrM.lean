/- What is proved: statements of the layer drop, called with whatever is known of a box, answer true and turn nothing that was there. Conditions: none but those in each statement. -/
import Derived.Test.YtokdpnpldoaepaaDrS
import Derived.Test.YtokdpnpldoaepaaAskWords
namespace Go.Proofs.Ytokdpnpldoaepaa.DrM
open Go Go.RowKit Go.Proofs.Ytokdpnpldoaepaa.X Go.Proofs.Ytokdpnpldoaepaa.Ac Go.Proofs.Ytokdpnpldoaepaa.Dr Go.Proofs.Ytokdpnpldoaepaa.AskWords
theorem DropSolves_any (base : Int) (tA : Bool) (tN : Int) (mA : Bool) (mN : Int) (hA : Bool) (hN : Int) (qA : Bool) (qN : Int) (bA : Bool) (bN : Int) (around : Int) (want : Int) (stat : Int) (least : Int) (most : Int) (W : World) :
    Calls Try.prog 6 #[.agg #[.int .i64 base, .bool tA, .int .i64 tN, .bool mA, .int .i64 mN, .bool hA, .int .i64 hN, .bool qA, .int .i64 qN, .bool bA, .int .i64 bN, .int .i64 around, .int .i64 want, .int .i64 stat, .int .i64 least, .int .i64 most]] W (IsTrue W) :=
  call_of (EX_ok _) Dr.L2_ok mixed (us := [_]) rfl rfl (DropSolves_x ⟨base, tA, tN, mA, mN, hA, hN, qA, qN, bA, bN, around, want, stat, least, most⟩) W
end Go.Proofs.Ytokdpnpldoaepaa.DrM
