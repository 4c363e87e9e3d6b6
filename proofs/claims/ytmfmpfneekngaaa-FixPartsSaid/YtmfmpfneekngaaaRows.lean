/-
  No cell of these rows narrows 'for every input' (looked for: loops, veiled, ifaces, maps, wideKeys, modest, calm, conditions, laid).
  DERIVED. THE GIVEN ROWS OF THIS SEAT. 10 by the template 'for every input the law returns true; each argument reads behind the call as it read before'; 0 by the template 'total and deterministic' (their statements: YtmfmpfneekngaaaTotals.lean).
  GIVEN WITH THE SEED: the statements are not yours to turn. If you find one false, say at which input.
  Laid BY PROGRAM, IN A SANDBOX (cutbox-rows.mjs): the forced cells as the released guide's own fill.sh prints them over the translation 08dc84cba0e6dcc5… (all of the seat's roots in one cut). By AI agents, Wed Nov 11 2026. No macro, syntax, notation, axiom, sorry.
-/
import Derived.Test.YtmfmpfneekngaaaChecked
import GoSem.Claim
import GoSem.ClaimJoined
import GoSem.ClaimMapViews
import Derived.JoinedTies
import Derived.KernelRfl
namespace Go.Proofs.Ytmfmpfneekngaaa
/- THE CELL 'sum', in the pinned program and in every row, IS THE sha256 OF THE DUMP (.gsa) THAT YtmfmpfneekngaaaProg.lean LOADS. Nothing in Lean hashes anything: it is a label: what it is worth is what the hold of that sum in a sandbox is worth. -/
noncomputable def Try.pinned : Pinned := { name := "ytmfmpfneekngaaa", sum := "08dc84cba0e6dcc5288d94cdfd4482e1e436602c8baf257fdf6591959386f323", checked := Try.checked }
namespace Rows
def none {H : Type} : Left H := { results := [], args := [] }

/-- 'decoupagelaw01.FixFits': WHATEVER THE INPUT: true; the input reads as it did. -/
def fixFitsSpec : ChangeSpec := { name := "fixFits", fn := fun _ => fun
  | [d] => { results := [.lit (.bool true)], args := [d] }
  | _ => none }
def fixFitsRow : OpenClaim := { program := "ytmfmpfneekngaaa", sum := "08dc84cba0e6dcc5288d94cdfd4482e1e436602c8baf257fdf6591959386f323", func := "decoupage/decoupagelaw01.FixFits", spec := "fixFits", apart := false }
def FixFitsSaid : Prop := fixFitsRow.holds Try.pinned (OpenSpec.ofChange fixFitsSpec)

/-- ITS FALSE NEIGHBOUR: 'it returns false'. Refute it at one input. -/
def fixFitsWrong : ChangeSpec := { name := "fixFits", fn := fun _ => fun
  | [d] => { results := [.lit (.bool false)], args := [d] }
  | _ => none }
def FixFitsWrongFalsely : Prop := fixFitsRow.holds Try.pinned (OpenSpec.ofChange fixFitsWrong)

/-- 'decoupagelaw01.FixRounds': WHATEVER THE INPUT: true; the input reads as it did. -/
def fixRoundsSpec : ChangeSpec := { name := "fixRounds", fn := fun _ => fun
  | [d1, d2, d3] => { results := [.lit (.bool true)], args := [d1, d2, d3] }
  | _ => none }
def fixRoundsRow : OpenClaim := { program := "ytmfmpfneekngaaa", sum := "08dc84cba0e6dcc5288d94cdfd4482e1e436602c8baf257fdf6591959386f323", func := "decoupage/decoupagelaw01.FixRounds", spec := "fixRounds", apart := false }
def FixRoundsSaid : Prop := fixRoundsRow.holds Try.pinned (OpenSpec.ofChange fixRoundsSpec)

/-- ITS FALSE NEIGHBOUR: 'it returns false'. Refute it at one input. -/
def fixRoundsWrong : ChangeSpec := { name := "fixRounds", fn := fun _ => fun
  | [d1, d2, d3] => { results := [.lit (.bool false)], args := [d1, d2, d3] }
  | _ => none }
def FixRoundsWrongFalsely : Prop := fixRoundsRow.holds Try.pinned (OpenSpec.ofChange fixRoundsWrong)

/-- 'decoupagelaw01.FixClamps': WHATEVER THE INPUT: true; the input reads as it did. -/
def fixClampsSpec : ChangeSpec := { name := "fixClamps", fn := fun _ => fun
  | [d1, d2, d3] => { results := [.lit (.bool true)], args := [d1, d2, d3] }
  | _ => none }
def fixClampsRow : OpenClaim := { program := "ytmfmpfneekngaaa", sum := "08dc84cba0e6dcc5288d94cdfd4482e1e436602c8baf257fdf6591959386f323", func := "decoupage/decoupagelaw01.FixClamps", spec := "fixClamps", apart := false }
def FixClampsSaid : Prop := fixClampsRow.holds Try.pinned (OpenSpec.ofChange fixClampsSpec)

/-- ITS FALSE NEIGHBOUR: 'it returns false'. Refute it at one input. -/
def fixClampsWrong : ChangeSpec := { name := "fixClamps", fn := fun _ => fun
  | [d1, d2, d3] => { results := [.lit (.bool false)], args := [d1, d2, d3] }
  | _ => none }
def FixClampsWrongFalsely : Prop := fixClampsRow.holds Try.pinned (OpenSpec.ofChange fixClampsWrong)

/-- 'decoupagelaw02.RectPoints': WHATEVER THE INPUT: true; the input reads as it did. -/
def rectPointsSpec : ChangeSpec := { name := "rectPoints", fn := fun _ => fun
  | [d1, d2, d3, d4] => { results := [.lit (.bool true)], args := [d1, d2, d3, d4] }
  | _ => none }
def rectPointsRow : OpenClaim := { program := "ytmfmpfneekngaaa", sum := "08dc84cba0e6dcc5288d94cdfd4482e1e436602c8baf257fdf6591959386f323", func := "decoupage/decoupagelaw02.RectPoints", spec := "rectPoints", apart := false }
def RectPointsSaid : Prop := rectPointsRow.holds Try.pinned (OpenSpec.ofChange rectPointsSpec)

/-- ITS FALSE NEIGHBOUR: 'it returns false'. Refute it at one input. -/
def rectPointsWrong : ChangeSpec := { name := "rectPoints", fn := fun _ => fun
  | [d1, d2, d3, d4] => { results := [.lit (.bool false)], args := [d1, d2, d3, d4] }
  | _ => none }
def RectPointsWrongFalsely : Prop := rectPointsRow.holds Try.pinned (OpenSpec.ofChange rectPointsWrong)

/-- 'decoupagelaw02.RectCuts': WHATEVER THE INPUT: true; the input reads as it did. -/
def rectCutsSpec : ChangeSpec := { name := "rectCuts", fn := fun _ => fun
  | [d1, d2, d3, d4] => { results := [.lit (.bool true)], args := [d1, d2, d3, d4] }
  | _ => none }
def rectCutsRow : OpenClaim := { program := "ytmfmpfneekngaaa", sum := "08dc84cba0e6dcc5288d94cdfd4482e1e436602c8baf257fdf6591959386f323", func := "decoupage/decoupagelaw02.RectCuts", spec := "rectCuts", apart := false }
def RectCutsSaid : Prop := rectCutsRow.holds Try.pinned (OpenSpec.ofChange rectCutsSpec)

/-- ITS FALSE NEIGHBOUR: 'it returns false'. Refute it at one input. -/
def rectCutsWrong : ChangeSpec := { name := "rectCuts", fn := fun _ => fun
  | [d1, d2, d3, d4] => { results := [.lit (.bool false)], args := [d1, d2, d3, d4] }
  | _ => none }
def RectCutsWrongFalsely : Prop := rectCutsRow.holds Try.pinned (OpenSpec.ofChange rectCutsWrong)

/-- 'decoupagelaw02.RectMeets': WHATEVER THE INPUT: true; the input reads as it did. -/
def rectMeetsSpec : ChangeSpec := { name := "rectMeets", fn := fun _ => fun
  | [d1, d2] => { results := [.lit (.bool true)], args := [d1, d2] }
  | _ => none }
def rectMeetsRow : OpenClaim := { program := "ytmfmpfneekngaaa", sum := "08dc84cba0e6dcc5288d94cdfd4482e1e436602c8baf257fdf6591959386f323", func := "decoupage/decoupagelaw02.RectMeets", spec := "rectMeets", apart := false }
def RectMeetsSaid : Prop := rectMeetsRow.holds Try.pinned (OpenSpec.ofChange rectMeetsSpec)

/-- ITS FALSE NEIGHBOUR: 'it returns false'. Refute it at one input. -/
def rectMeetsWrong : ChangeSpec := { name := "rectMeets", fn := fun _ => fun
  | [d1, d2] => { results := [.lit (.bool false)], args := [d1, d2] }
  | _ => none }
def RectMeetsWrongFalsely : Prop := rectMeetsRow.holds Try.pinned (OpenSpec.ofChange rectMeetsWrong)

/-- 'decoupagelaw02.RectInside': WHATEVER THE INPUT: true; the input reads as it did. -/
def rectInsideSpec : ChangeSpec := { name := "rectInside", fn := fun _ => fun
  | [d1, d2, d3, d4] => { results := [.lit (.bool true)], args := [d1, d2, d3, d4] }
  | _ => none }
def rectInsideRow : OpenClaim := { program := "ytmfmpfneekngaaa", sum := "08dc84cba0e6dcc5288d94cdfd4482e1e436602c8baf257fdf6591959386f323", func := "decoupage/decoupagelaw02.RectInside", spec := "rectInside", apart := false }
def RectInsideSaid : Prop := rectInsideRow.holds Try.pinned (OpenSpec.ofChange rectInsideSpec)

/-- ITS FALSE NEIGHBOUR: 'it returns false'. Refute it at one input. -/
def rectInsideWrong : ChangeSpec := { name := "rectInside", fn := fun _ => fun
  | [d1, d2, d3, d4] => { results := [.lit (.bool false)], args := [d1, d2, d3, d4] }
  | _ => none }
def RectInsideWrongFalsely : Prop := rectInsideRow.holds Try.pinned (OpenSpec.ofChange rectInsideWrong)

/-- 'decoupagelaw02.RectBounds': WHATEVER THE INPUT: true; the input reads as it did. -/
def rectBoundsSpec : ChangeSpec := { name := "rectBounds", fn := fun _ => fun
  | [d] => { results := [.lit (.bool true)], args := [d] }
  | _ => none }
def rectBoundsRow : OpenClaim := { program := "ytmfmpfneekngaaa", sum := "08dc84cba0e6dcc5288d94cdfd4482e1e436602c8baf257fdf6591959386f323", func := "decoupage/decoupagelaw02.RectBounds", spec := "rectBounds", apart := false }
def RectBoundsSaid : Prop := rectBoundsRow.holds Try.pinned (OpenSpec.ofChange rectBoundsSpec)

/-- ITS FALSE NEIGHBOUR: 'it returns false'. Refute it at one input. -/
def rectBoundsWrong : ChangeSpec := { name := "rectBounds", fn := fun _ => fun
  | [d] => { results := [.lit (.bool false)], args := [d] }
  | _ => none }
def RectBoundsWrongFalsely : Prop := rectBoundsRow.holds Try.pinned (OpenSpec.ofChange rectBoundsWrong)

/-- 'decoupagelaw01.FixSums': WHATEVER THE INPUT: true; the input reads as it did. -/
def fixSumsSpec : ChangeSpec := { name := "fixSums", fn := fun _ => fun
  | [d] => { results := [.lit (.bool true)], args := [d] }
  | _ => none }
def fixSumsRow : OpenClaim := { program := "ytmfmpfneekngaaa", sum := "08dc84cba0e6dcc5288d94cdfd4482e1e436602c8baf257fdf6591959386f323", func := "decoupage/decoupagelaw01.FixSums", spec := "fixSums", apart := false }
def FixSumsSaid : Prop := fixSumsRow.holds Try.pinned (OpenSpec.ofChange fixSumsSpec)

/-- ITS FALSE NEIGHBOUR: 'it returns false'. Refute it at one input. -/
def fixSumsWrong : ChangeSpec := { name := "fixSums", fn := fun _ => fun
  | [d] => { results := [.lit (.bool false)], args := [d] }
  | _ => none }
def FixSumsWrongFalsely : Prop := fixSumsRow.holds Try.pinned (OpenSpec.ofChange fixSumsWrong)

/-- 'decoupagelaw01.FixParts': WHATEVER THE INPUT: true; the input reads as it did. -/
def fixPartsSpec : ChangeSpec := { name := "fixParts", fn := fun _ => fun
  | [d1, d2] => { results := [.lit (.bool true)], args := [d1, d2] }
  | _ => none }
def fixPartsRow : OpenClaim := { program := "ytmfmpfneekngaaa", sum := "08dc84cba0e6dcc5288d94cdfd4482e1e436602c8baf257fdf6591959386f323", func := "decoupage/decoupagelaw01.FixParts", spec := "fixParts", named := ["math/bits.divideError", "math/bits.overflowError"], apart := false }
def FixPartsSaid : Prop := fixPartsRow.holds Try.pinned (OpenSpec.ofChange fixPartsSpec)

/-- ITS FALSE NEIGHBOUR: 'it returns false'. Refute it at one input. -/
def fixPartsWrong : ChangeSpec := { name := "fixParts", fn := fun _ => fun
  | [d1, d2] => { results := [.lit (.bool false)], args := [d1, d2] }
  | _ => none }
def FixPartsWrongFalsely : Prop := fixPartsRow.holds Try.pinned (OpenSpec.ofChange fixPartsWrong)

/- THE SECOND FORM. 'bulk': how many values and letters a reading holds, each counted each time it is reached (what is shared counts as often as it is met; a slice's spare places count too). A statement '..UptoSaid' is the law's where the arguments, and the package variables that the reading takes, are together of bulk at most 1048576: NARROWER than '..Said'. Prove '..Said' where nothing that the law and all that it calls make is longer than what came in: it says more and counts as full. Else prove '..UptoSaid'. A law counts once. -/
mutual
def uptoBulk {H : Type} : DataW H → Nat
  | .lit (.string bytes) => bytes.length + 1
  | .lit _ => 1
  | .nil => 1
  | .ptr d => uptoBulk d + 1
  | .slice elems spare => uptoBulkAll elems + uptoBulkAll spare + 1
  | .agg parts => uptoBulkAll parts + 1
  | .iface _ d => uptoBulk d + 1
  | .map entries => uptoBulkEntries entries + 1
  | .held _ => 1
def uptoBulkAll {H : Type} : List (DataW H) → Nat
  | [] => 0
  | d :: r => uptoBulk d + uptoBulkAll r
def uptoBulkEntries {H : Type} : List (Lit × DataW H) → Nat
  | [] => 0
  | x :: r => uptoBulkEntry x + uptoBulkEntries r
def uptoBulkEntry {H : Type} : Lit × DataW H → Nat
  | (.string bytes, d) => bytes.length + uptoBulk d + 1
  | (_, d) => uptoBulk d + 1
 end
def uptoSmall : (H : Type) → List (DataW H) → Bool := fun _ ds => decide (uptoBulkAll ds ≤ 1048576)
def OpenSpec.upto (s : _root_.Go.ChangeSpec) : _root_.Go.OpenSpec := { _root_.Go.OpenSpec.ofChange s with cond := some uptoSmall }

/-- 'decoupagelaw01.FixFits', WHERE WHAT IT READS IS OF BULK AT MOST 1048576: true; the input reads as it did. -/
def fixFitsUptoRow : OpenClaim := { program := "ytmfmpfneekngaaa", sum := "08dc84cba0e6dcc5288d94cdfd4482e1e436602c8baf257fdf6591959386f323", func := "decoupage/decoupagelaw01.FixFits", spec := "fixFits", apart := false, narrowed := true }
def FixFitsUptoSaid : Prop := fixFitsUptoRow.holds Try.pinned (OpenSpec.upto fixFitsSpec)

/-- 'decoupagelaw01.FixRounds', WHERE WHAT IT READS IS OF BULK AT MOST 1048576: true; the input reads as it did. -/
def fixRoundsUptoRow : OpenClaim := { program := "ytmfmpfneekngaaa", sum := "08dc84cba0e6dcc5288d94cdfd4482e1e436602c8baf257fdf6591959386f323", func := "decoupage/decoupagelaw01.FixRounds", spec := "fixRounds", apart := false, narrowed := true }
def FixRoundsUptoSaid : Prop := fixRoundsUptoRow.holds Try.pinned (OpenSpec.upto fixRoundsSpec)

/-- 'decoupagelaw01.FixClamps', WHERE WHAT IT READS IS OF BULK AT MOST 1048576: true; the input reads as it did. -/
def fixClampsUptoRow : OpenClaim := { program := "ytmfmpfneekngaaa", sum := "08dc84cba0e6dcc5288d94cdfd4482e1e436602c8baf257fdf6591959386f323", func := "decoupage/decoupagelaw01.FixClamps", spec := "fixClamps", apart := false, narrowed := true }
def FixClampsUptoSaid : Prop := fixClampsUptoRow.holds Try.pinned (OpenSpec.upto fixClampsSpec)

/-- 'decoupagelaw02.RectPoints', WHERE WHAT IT READS IS OF BULK AT MOST 1048576: true; the input reads as it did. -/
def rectPointsUptoRow : OpenClaim := { program := "ytmfmpfneekngaaa", sum := "08dc84cba0e6dcc5288d94cdfd4482e1e436602c8baf257fdf6591959386f323", func := "decoupage/decoupagelaw02.RectPoints", spec := "rectPoints", apart := false, narrowed := true }
def RectPointsUptoSaid : Prop := rectPointsUptoRow.holds Try.pinned (OpenSpec.upto rectPointsSpec)

/-- 'decoupagelaw02.RectCuts', WHERE WHAT IT READS IS OF BULK AT MOST 1048576: true; the input reads as it did. -/
def rectCutsUptoRow : OpenClaim := { program := "ytmfmpfneekngaaa", sum := "08dc84cba0e6dcc5288d94cdfd4482e1e436602c8baf257fdf6591959386f323", func := "decoupage/decoupagelaw02.RectCuts", spec := "rectCuts", apart := false, narrowed := true }
def RectCutsUptoSaid : Prop := rectCutsUptoRow.holds Try.pinned (OpenSpec.upto rectCutsSpec)

/-- 'decoupagelaw02.RectMeets', WHERE WHAT IT READS IS OF BULK AT MOST 1048576: true; the input reads as it did. -/
def rectMeetsUptoRow : OpenClaim := { program := "ytmfmpfneekngaaa", sum := "08dc84cba0e6dcc5288d94cdfd4482e1e436602c8baf257fdf6591959386f323", func := "decoupage/decoupagelaw02.RectMeets", spec := "rectMeets", apart := false, narrowed := true }
def RectMeetsUptoSaid : Prop := rectMeetsUptoRow.holds Try.pinned (OpenSpec.upto rectMeetsSpec)

/-- 'decoupagelaw02.RectInside', WHERE WHAT IT READS IS OF BULK AT MOST 1048576: true; the input reads as it did. -/
def rectInsideUptoRow : OpenClaim := { program := "ytmfmpfneekngaaa", sum := "08dc84cba0e6dcc5288d94cdfd4482e1e436602c8baf257fdf6591959386f323", func := "decoupage/decoupagelaw02.RectInside", spec := "rectInside", apart := false, narrowed := true }
def RectInsideUptoSaid : Prop := rectInsideUptoRow.holds Try.pinned (OpenSpec.upto rectInsideSpec)

/-- 'decoupagelaw02.RectBounds', WHERE WHAT IT READS IS OF BULK AT MOST 1048576: true; the input reads as it did. -/
def rectBoundsUptoRow : OpenClaim := { program := "ytmfmpfneekngaaa", sum := "08dc84cba0e6dcc5288d94cdfd4482e1e436602c8baf257fdf6591959386f323", func := "decoupage/decoupagelaw02.RectBounds", spec := "rectBounds", apart := false, narrowed := true }
def RectBoundsUptoSaid : Prop := rectBoundsUptoRow.holds Try.pinned (OpenSpec.upto rectBoundsSpec)

/-- 'decoupagelaw01.FixSums', WHERE WHAT IT READS IS OF BULK AT MOST 1048576: true; the input reads as it did. -/
def fixSumsUptoRow : OpenClaim := { program := "ytmfmpfneekngaaa", sum := "08dc84cba0e6dcc5288d94cdfd4482e1e436602c8baf257fdf6591959386f323", func := "decoupage/decoupagelaw01.FixSums", spec := "fixSums", apart := false, narrowed := true }
def FixSumsUptoSaid : Prop := fixSumsUptoRow.holds Try.pinned (OpenSpec.upto fixSumsSpec)

/-- 'decoupagelaw01.FixParts', WHERE WHAT IT READS IS OF BULK AT MOST 1048576: true; the input reads as it did. -/
def fixPartsUptoRow : OpenClaim := { program := "ytmfmpfneekngaaa", sum := "08dc84cba0e6dcc5288d94cdfd4482e1e436602c8baf257fdf6591959386f323", func := "decoupage/decoupagelaw01.FixParts", spec := "fixParts", named := ["math/bits.divideError", "math/bits.overflowError"], apart := false, narrowed := true }
def FixPartsUptoSaid : Prop := fixPartsUptoRow.holds Try.pinned (OpenSpec.upto fixPartsSpec)

end Rows
end Go.Proofs.Ytmfmpfneekngaaa
