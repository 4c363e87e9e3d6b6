/- What is proved: a statement of the layer hang, called with whatever is known of a box, answers true and turns nothing that was there. Conditions: none but those in each statement. -/
import Derived.Test.YtokdpnpldoaepaaHgS
import Derived.Test.YtokdpnpldoaepaaAskWords
namespace Go.Proofs.Ytokdpnpldoaepaa.HgM
open Go Go.RowKit Go.Proofs.Ytokdpnpldoaepaa.X Go.Proofs.Ytokdpnpldoaepaa.Ac Go.Proofs.Ytokdpnpldoaepaa.Hg Go.Proofs.Ytokdpnpldoaepaa.AskWords
theorem HangSolves_any (base : Int) (lA : Bool) (lN : Int) (pA : Bool) (pN : Int) (wA : Bool) (wN : Int) (qA : Bool) (qN : Int) (rA : Bool) (rN : Int) (around : Int) (want : Int) (stat : Int) (behind : Int) (rtl : Bool) (turned : Bool) (least : Int) (most : Int) (W : World) :
    Calls Try.prog 10 #[.agg #[.int .i64 base, .bool lA, .int .i64 lN, .bool pA, .int .i64 pN, .bool wA, .int .i64 wN, .bool qA, .int .i64 qN, .bool rA, .int .i64 rN, .int .i64 around, .int .i64 want, .int .i64 stat, .int .i64 behind, .bool rtl, .bool turned, .int .i64 least, .int .i64 most]] W (IsTrue W) :=
  call_of (EX_ok _) Hg.L2_ok mixed (us := [_]) rfl rfl (HangSolves_x ⟨base, lA, lN, pA, pN, wA, wN, qA, qN, rA, rN, around, want, stat, behind, rtl, turned, least, most⟩) W
end Go.Proofs.Ytokdpnpldoaepaa.HgM
