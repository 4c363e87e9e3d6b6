/- What is proved: statements of the layer hang, called with whatever is known of a box, answer true and turn nothing that was there. Conditions: none but those in each statement. -/
import Derived.Test.YtokdpnpldoaepaaHgE
import Derived.Test.YtokdpnpldoaepaaAskWords
namespace Go.Proofs.Ytokdpnpldoaepaa.HgL
open Go Go.RowKit Go.Proofs.Ytokdpnpldoaepaa.X Go.Proofs.Ytokdpnpldoaepaa.Ac Go.Proofs.Ytokdpnpldoaepaa.Hg Go.Proofs.Ytokdpnpldoaepaa.AskWords
theorem HangSums_any (base : Int) (lA : Bool) (lN : Int) (pA : Bool) (pN : Int) (wA : Bool) (wN : Int) (qA : Bool) (qN : Int) (rA : Bool) (rN around want stat behind : Int) (rtl turned : Bool) (least most : Int) (W : World) :
    Calls Try.prog 11 #[.agg #[.int .i64 base, .bool lA, .int .i64 lN, .bool pA, .int .i64 pN, .bool wA, .int .i64 wN, .bool qA, .int .i64 qN, .bool rA, .int .i64 rN, .int .i64 around, .int .i64 want, .int .i64 stat, .int .i64 behind, .bool rtl, .bool turned, .int .i64 least, .int .i64 most]] W (IsTrue W) :=
  call_of (EX_ok _) Hg.L1_ok mixed (us := [_]) rfl rfl (HangSums_x ⟨base, lA, lN, pA, pN, wA, wN, qA, qN, rA, rN, around, want, stat, behind, rtl, turned, least, most⟩) W
theorem HangKeeps_any (base : Int) (lA : Bool) (lN : Int) (pA : Bool) (pN : Int) (wA : Bool) (wN : Int) (qA : Bool) (qN : Int) (rA : Bool) (rN around want stat behind : Int) (rtl turned : Bool) (least most : Int) (W : World) :
    Calls Try.prog 12 #[.agg #[.int .i64 base, .bool lA, .int .i64 lN, .bool pA, .int .i64 pN, .bool wA, .int .i64 wN, .bool qA, .int .i64 qN, .bool rA, .int .i64 rN, .int .i64 around, .int .i64 want, .int .i64 stat, .int .i64 behind, .bool rtl, .bool turned, .int .i64 least, .int .i64 most]] W (IsTrue W) :=
  call_of (EX_ok _) Hg.L1_ok mixed (us := [_]) rfl rfl (HangKeeps_x ⟨base, lA, lN, pA, pN, wA, wN, qA, qN, rA, rN, around, want, stat, behind, rtl, turned, least, most⟩) W
theorem HangOnly_any (base : Int) (lA : Bool) (lN : Int) (pA : Bool) (pN : Int) (wA : Bool) (wN : Int) (qA : Bool) (qN : Int) (rA : Bool) (rN around want stat behind : Int) (rtl turned : Bool) (least most : Int) (left : Bool) (W : World) :
    Calls Try.prog 13 #[.agg #[.int .i64 base, .bool lA, .int .i64 lN, .bool pA, .int .i64 pN, .bool wA, .int .i64 wN, .bool qA, .int .i64 qN, .bool rA, .int .i64 rN, .int .i64 around, .int .i64 want, .int .i64 stat, .int .i64 behind, .bool rtl, .bool turned, .int .i64 least, .int .i64 most], .bool left] W (IsTrue W) :=
  call_of (EX_ok _) Hg.L1_ok mixed (us := [_, _]) rfl rfl (HangOnly_x ⟨base, lA, lN, pA, pN, wA, wN, qA, qN, rA, rN, around, want, stat, behind, rtl, turned, least, most⟩ left) W
end Go.Proofs.Ytokdpnpldoaepaa.HgL
