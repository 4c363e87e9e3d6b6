/- What is proved: each statement of the layer across, called with whatever is known of a box, answers true and turns nothing that was there. Conditions: none but those in each statement. -/
import Derived.Test.YtokdpnpldoaepaaAcH
import Derived.Test.YtokdpnpldoaepaaAskWords
namespace Go.Proofs.Ytokdpnpldoaepaa.AcL
open Go Go.RowKit Go.Proofs.Ytokdpnpldoaepaa.X Go.Proofs.Ytokdpnpldoaepaa.Ac Go.Proofs.Ytokdpnpldoaepaa.AskWords
theorem AcrossSolves_any (base : Int) (lA : Bool) (lN : Int) (wA : Bool) (wN : Int) (rA : Bool) (rN around : Int) (rtl : Bool) (least most : Int) (W : World) :
    Calls Try.prog 3 #[.agg #[.int .i64 base, .bool lA, .int .i64 lN, .bool wA, .int .i64 wN, .bool rA, .int .i64 rN, .int .i64 around, .bool rtl, .int .i64 least, .int .i64 most]] W (IsTrue W) :=
  call_of (EX_ok _) L1_ok mixed (us := [_]) rfl rfl (AcrossSolves_x ⟨base, lA, lN, wA, wN, rA, rN, around, rtl, least, most⟩) W
theorem AcrossSums_any (base : Int) (lA : Bool) (lN : Int) (wA : Bool) (wN : Int) (rA : Bool) (rN around : Int) (rtl : Bool) (least most : Int) (W : World) :
    Calls Try.prog 4 #[.agg #[.int .i64 base, .bool lA, .int .i64 lN, .bool wA, .int .i64 wN, .bool rA, .int .i64 rN, .int .i64 around, .bool rtl, .int .i64 least, .int .i64 most]] W (IsTrue W) :=
  call_of (EX_ok _) L1_ok mixed (us := [_]) rfl rfl (AcrossSums_x ⟨base, lA, lN, wA, wN, rA, rN, around, rtl, least, most⟩) W
theorem AcrossKeeps_any (base : Int) (lA : Bool) (lN : Int) (wA : Bool) (wN : Int) (rA : Bool) (rN around : Int) (rtl : Bool) (least most : Int) (W : World) :
    Calls Try.prog 5 #[.agg #[.int .i64 base, .bool lA, .int .i64 lN, .bool wA, .int .i64 wN, .bool rA, .int .i64 rN, .int .i64 around, .bool rtl, .int .i64 least, .int .i64 most]] W (IsTrue W) :=
  call_of (EX_ok _) L1_ok mixed (us := [_]) rfl rfl (AcrossKeeps_x ⟨base, lA, lN, wA, wN, rA, rN, around, rtl, least, most⟩) W
end Go.Proofs.Ytokdpnpldoaepaa.AcL
