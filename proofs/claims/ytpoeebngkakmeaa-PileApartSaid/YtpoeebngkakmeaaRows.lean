/-
  No cell of these rows narrows 'for every input' (looked for: loops, veiled, ifaces, maps, wideKeys, modest, calm, conditions, laid).
  DERIVED. THE GIVEN ROWS OF THIS SEAT. 12 by the template 'for every input the law returns true; each argument reads behind the call as it read before'; 0 by the template 'total and deterministic' (their statements: YtpoeebngkakmeaaTotals.lean).
  GIVEN WITH THE SEED: the statements are not yours to turn. If you find one false, say at which input.
  Laid BY PROGRAM, IN A SANDBOX (cutbox-rows.mjs): the forced cells as the released guide's own fill.sh prints them over the translation 7a426980ea88f28d… (all of the seat's roots in one cut). By AI agents, Wed Nov 11 2026. No macro, syntax, notation, axiom, sorry.
-/
import Derived.Test.YtpoeebngkakmeaaChecked
import GoSem.Claim
import GoSem.ClaimJoined
import GoSem.ClaimMapViews
import Derived.JoinedTies
import Derived.KernelRfl
namespace Go.Proofs.Ytpoeebngkakmeaa
/- THE CELL 'sum', in the pinned program and in every row, IS THE sha256 OF THE DUMP (.gsa) THAT YtpoeebngkakmeaaProg.lean LOADS. Nothing in Lean hashes anything: it is a label: what it is worth is what the hold of that sum in a sandbox is worth. -/
noncomputable def Try.pinned : Pinned := { name := "ytpoeebngkakmeaa", sum := "7a426980ea88f28d3b22d92c1e0ce13249fbfc040ec35cf402a77763829bf2be", checked := Try.checked }
namespace Rows
def none {H : Type} : Left H := { results := [], args := [] }

/-- 'decoupagelaw10.BoundAsks': WHATEVER THE INPUT: true; the input reads as it did. -/
def boundAsksSpec : ChangeSpec := { name := "boundAsks", fn := fun _ => fun
  | [d1, d2, d3, d4, d5] => { results := [.lit (.bool true)], args := [d1, d2, d3, d4, d5] }
  | _ => none }
def boundAsksRow : OpenClaim := { program := "ytpoeebngkakmeaa", sum := "7a426980ea88f28d3b22d92c1e0ce13249fbfc040ec35cf402a77763829bf2be", func := "decoupage/decoupagelaw10.BoundAsks", spec := "boundAsks", unfollowed := true, recurses := true, apart := false }
def BoundAsksSaid : Prop := boundAsksRow.holds Try.pinned (OpenSpec.ofChange boundAsksSpec)

/-- ITS FALSE NEIGHBOUR: 'it returns false'. Refute it at one input. -/
def boundAsksWrong : ChangeSpec := { name := "boundAsks", fn := fun _ => fun
  | [d1, d2, d3, d4, d5] => { results := [.lit (.bool false)], args := [d1, d2, d3, d4, d5] }
  | _ => none }
def BoundAsksWrongFalsely : Prop := boundAsksRow.holds Try.pinned (OpenSpec.ofChange boundAsksWrong)

/-- 'decoupagelaw10.BoundKeeps': WHATEVER THE INPUT: true; the input reads as it did. -/
def boundKeepsSpec : ChangeSpec := { name := "boundKeeps", fn := fun _ => fun
  | [d1, d2, d3] => { results := [.lit (.bool true)], args := [d1, d2, d3] }
  | _ => none }
def boundKeepsRow : OpenClaim := { program := "ytpoeebngkakmeaa", sum := "7a426980ea88f28d3b22d92c1e0ce13249fbfc040ec35cf402a77763829bf2be", func := "decoupage/decoupagelaw10.BoundKeeps", spec := "boundKeeps", unfollowed := true, recurses := true, apart := false }
def BoundKeepsSaid : Prop := boundKeepsRow.holds Try.pinned (OpenSpec.ofChange boundKeepsSpec)

/-- ITS FALSE NEIGHBOUR: 'it returns false'. Refute it at one input. -/
def boundKeepsWrong : ChangeSpec := { name := "boundKeeps", fn := fun _ => fun
  | [d1, d2, d3] => { results := [.lit (.bool false)], args := [d1, d2, d3] }
  | _ => none }
def BoundKeepsWrongFalsely : Prop := boundKeepsRow.holds Try.pinned (OpenSpec.ofChange boundKeepsWrong)

/-- 'decoupagelaw10.BoundNil': WHATEVER THE INPUT: true; the input reads as it did. -/
def boundNilSpec : ChangeSpec := { name := "boundNil", fn := fun _ => fun
  | [d1, d2, d3] => { results := [.lit (.bool true)], args := [d1, d2, d3] }
  | _ => none }
def boundNilRow : OpenClaim := { program := "ytpoeebngkakmeaa", sum := "7a426980ea88f28d3b22d92c1e0ce13249fbfc040ec35cf402a77763829bf2be", func := "decoupage/decoupagelaw10.BoundNil", spec := "boundNil", unfollowed := true, recurses := true, apart := false }
def BoundNilSaid : Prop := boundNilRow.holds Try.pinned (OpenSpec.ofChange boundNilSpec)

/-- ITS FALSE NEIGHBOUR: 'it returns false'. Refute it at one input. -/
def boundNilWrong : ChangeSpec := { name := "boundNil", fn := fun _ => fun
  | [d1, d2, d3] => { results := [.lit (.bool false)], args := [d1, d2, d3] }
  | _ => none }
def BoundNilWrongFalsely : Prop := boundNilRow.holds Try.pinned (OpenSpec.ofChange boundNilWrong)

/-- 'decoupagelaw11.StrutJoins': WHATEVER THE INPUT: true; the input reads as it did. -/
def strutJoinsSpec : ChangeSpec := { name := "strutJoins", fn := fun _ => fun
  | [d1, d2] => { results := [.lit (.bool true)], args := [d1, d2] }
  | _ => none }
def strutJoinsRow : OpenClaim := { program := "ytpoeebngkakmeaa", sum := "7a426980ea88f28d3b22d92c1e0ce13249fbfc040ec35cf402a77763829bf2be", func := "decoupage/decoupagelaw11.StrutJoins", spec := "strutJoins", apart := false }
def StrutJoinsSaid : Prop := strutJoinsRow.holds Try.pinned (OpenSpec.ofChange strutJoinsSpec)

/-- ITS FALSE NEIGHBOUR: 'it returns false'. Refute it at one input. -/
def strutJoinsWrong : ChangeSpec := { name := "strutJoins", fn := fun _ => fun
  | [d1, d2] => { results := [.lit (.bool false)], args := [d1, d2] }
  | _ => none }
def StrutJoinsWrongFalsely : Prop := strutJoinsRow.holds Try.pinned (OpenSpec.ofChange strutJoinsWrong)

/-- 'decoupagelaw11.StrutValues': WHATEVER THE INPUT: true; the input reads as it did. -/
def strutValuesSpec : ChangeSpec := { name := "strutValues", fn := fun _ => fun
  | [d1, d2] => { results := [.lit (.bool true)], args := [d1, d2] }
  | _ => none }
def strutValuesRow : OpenClaim := { program := "ytpoeebngkakmeaa", sum := "7a426980ea88f28d3b22d92c1e0ce13249fbfc040ec35cf402a77763829bf2be", func := "decoupage/decoupagelaw11.StrutValues", spec := "strutValues", apart := false }
def StrutValuesSaid : Prop := strutValuesRow.holds Try.pinned (OpenSpec.ofChange strutValuesSpec)

/-- ITS FALSE NEIGHBOUR: 'it returns false'. Refute it at one input. -/
def strutValuesWrong : ChangeSpec := { name := "strutValues", fn := fun _ => fun
  | [d1, d2] => { results := [.lit (.bool false)], args := [d1, d2] }
  | _ => none }
def StrutValuesWrongFalsely : Prop := strutValuesRow.holds Try.pinned (OpenSpec.ofChange strutValuesWrong)

/-- 'decoupagelaw11.StrutLaws': WHATEVER THE INPUT: true; the input reads as it did. -/
def strutLawsSpec : ChangeSpec := { name := "strutLaws", fn := fun _ => fun
  | [d1, d2, d3] => { results := [.lit (.bool true)], args := [d1, d2, d3] }
  | _ => none }
def strutLawsRow : OpenClaim := { program := "ytpoeebngkakmeaa", sum := "7a426980ea88f28d3b22d92c1e0ce13249fbfc040ec35cf402a77763829bf2be", func := "decoupage/decoupagelaw11.StrutLaws", spec := "strutLaws", apart := false }
def StrutLawsSaid : Prop := strutLawsRow.holds Try.pinned (OpenSpec.ofChange strutLawsSpec)

/-- ITS FALSE NEIGHBOUR: 'it returns false'. Refute it at one input. -/
def strutLawsWrong : ChangeSpec := { name := "strutLaws", fn := fun _ => fun
  | [d1, d2, d3] => { results := [.lit (.bool false)], args := [d1, d2, d3] }
  | _ => none }
def StrutLawsWrongFalsely : Prop := strutLawsRow.holds Try.pinned (OpenSpec.ofChange strutLawsWrong)

/-- 'decoupagelaw09.SizeOr': WHATEVER THE INPUT: true; the input reads as it did. -/
def sizeOrSpec : ChangeSpec := { name := "sizeOr", fn := fun _ => fun
  | [d1, d2] => { results := [.lit (.bool true)], args := [d1, d2] }
  | _ => none }
def sizeOrRow : OpenClaim := { program := "ytpoeebngkakmeaa", sum := "7a426980ea88f28d3b22d92c1e0ce13249fbfc040ec35cf402a77763829bf2be", func := "decoupage/decoupagelaw09.SizeOr", spec := "sizeOr", apart := false }
def SizeOrSaid : Prop := sizeOrRow.holds Try.pinned (OpenSpec.ofChange sizeOrSpec)

/-- ITS FALSE NEIGHBOUR: 'it returns false'. Refute it at one input. -/
def sizeOrWrong : ChangeSpec := { name := "sizeOr", fn := fun _ => fun
  | [d1, d2] => { results := [.lit (.bool false)], args := [d1, d2] }
  | _ => none }
def SizeOrWrongFalsely : Prop := sizeOrRow.holds Try.pinned (OpenSpec.ofChange sizeOrWrong)

/-- 'decoupagelaw12.PileParts': WHATEVER THE INPUT: true; the input reads as it did. -/
def pilePartsSpec : ChangeSpec := { name := "pileParts", fn := fun _ => fun
  | [d1, d2] => { results := [.lit (.bool true)], args := [d1, d2] }
  | _ => none }
def pilePartsRow : OpenClaim := { program := "ytpoeebngkakmeaa", sum := "7a426980ea88f28d3b22d92c1e0ce13249fbfc040ec35cf402a77763829bf2be", func := "decoupage/decoupagelaw12.PileParts", spec := "pileParts", apart := false }
def PilePartsSaid : Prop := pilePartsRow.holds Try.pinned (OpenSpec.ofChange pilePartsSpec)

/-- ITS FALSE NEIGHBOUR: 'it returns false'. Refute it at one input. -/
def pilePartsWrong : ChangeSpec := { name := "pileParts", fn := fun _ => fun
  | [d1, d2] => { results := [.lit (.bool false)], args := [d1, d2] }
  | _ => none }
def PilePartsWrongFalsely : Prop := pilePartsRow.holds Try.pinned (OpenSpec.ofChange pilePartsWrong)

/-- 'decoupagelaw12.PileApart': WHATEVER THE INPUT: true; the input reads as it did. -/
def pileApartSpec : ChangeSpec := { name := "pileApart", fn := fun _ => fun
  | [d1, d2] => { results := [.lit (.bool true)], args := [d1, d2] }
  | _ => none }
def pileApartRow : OpenClaim := { program := "ytpoeebngkakmeaa", sum := "7a426980ea88f28d3b22d92c1e0ce13249fbfc040ec35cf402a77763829bf2be", func := "decoupage/decoupagelaw12.PileApart", spec := "pileApart", apart := false }
def PileApartSaid : Prop := pileApartRow.holds Try.pinned (OpenSpec.ofChange pileApartSpec)

/-- ITS FALSE NEIGHBOUR: 'it returns false'. Refute it at one input. -/
def pileApartWrong : ChangeSpec := { name := "pileApart", fn := fun _ => fun
  | [d1, d2] => { results := [.lit (.bool false)], args := [d1, d2] }
  | _ => none }
def PileApartWrongFalsely : Prop := pileApartRow.holds Try.pinned (OpenSpec.ofChange pileApartWrong)

/-- 'decoupagelaw20.NudgeNone': WHATEVER THE INPUT: true; the input reads as it did. -/
def nudgeNoneSpec : ChangeSpec := { name := "nudgeNone", fn := fun _ => fun
  | [d1, d2, d3, d4] => { results := [.lit (.bool true)], args := [d1, d2, d3, d4] }
  | _ => none }
def nudgeNoneRow : OpenClaim := { program := "ytpoeebngkakmeaa", sum := "7a426980ea88f28d3b22d92c1e0ce13249fbfc040ec35cf402a77763829bf2be", func := "decoupage/decoupagelaw20.NudgeNone", spec := "nudgeNone", apart := false }
def NudgeNoneSaid : Prop := nudgeNoneRow.holds Try.pinned (OpenSpec.ofChange nudgeNoneSpec)

/-- ITS FALSE NEIGHBOUR: 'it returns false'. Refute it at one input. -/
def nudgeNoneWrong : ChangeSpec := { name := "nudgeNone", fn := fun _ => fun
  | [d1, d2, d3, d4] => { results := [.lit (.bool false)], args := [d1, d2, d3, d4] }
  | _ => none }
def NudgeNoneWrongFalsely : Prop := nudgeNoneRow.holds Try.pinned (OpenSpec.ofChange nudgeNoneWrong)

/-- 'decoupagelaw20.NudgeMirrors': WHATEVER THE INPUT: true; the input reads as it did. -/
def nudgeMirrorsSpec : ChangeSpec := { name := "nudgeMirrors", fn := fun _ => fun
  | [d1, d2, d3, d4] => { results := [.lit (.bool true)], args := [d1, d2, d3, d4] }
  | _ => none }
def nudgeMirrorsRow : OpenClaim := { program := "ytpoeebngkakmeaa", sum := "7a426980ea88f28d3b22d92c1e0ce13249fbfc040ec35cf402a77763829bf2be", func := "decoupage/decoupagelaw20.NudgeMirrors", spec := "nudgeMirrors", apart := false }
def NudgeMirrorsSaid : Prop := nudgeMirrorsRow.holds Try.pinned (OpenSpec.ofChange nudgeMirrorsSpec)

/-- ITS FALSE NEIGHBOUR: 'it returns false'. Refute it at one input. -/
def nudgeMirrorsWrong : ChangeSpec := { name := "nudgeMirrors", fn := fun _ => fun
  | [d1, d2, d3, d4] => { results := [.lit (.bool false)], args := [d1, d2, d3, d4] }
  | _ => none }
def NudgeMirrorsWrongFalsely : Prop := nudgeMirrorsRow.holds Try.pinned (OpenSpec.ofChange nudgeMirrorsWrong)

/-- 'decoupagelaw09.SizeSides': WHATEVER THE INPUT: true; the input reads as it did. -/
def sizeSidesSpec : ChangeSpec := { name := "sizeSides", fn := fun _ => fun
  | [d1, d2] => { results := [.lit (.bool true)], args := [d1, d2] }
  | _ => none }
def sizeSidesRow : OpenClaim := { program := "ytpoeebngkakmeaa", sum := "7a426980ea88f28d3b22d92c1e0ce13249fbfc040ec35cf402a77763829bf2be", func := "decoupage/decoupagelaw09.SizeSides", spec := "sizeSides", named := ["math/bits.divideError", "math/bits.overflowError"], apart := false }
def SizeSidesSaid : Prop := sizeSidesRow.holds Try.pinned (OpenSpec.ofChange sizeSidesSpec)

/-- ITS FALSE NEIGHBOUR: 'it returns false'. Refute it at one input. -/
def sizeSidesWrong : ChangeSpec := { name := "sizeSides", fn := fun _ => fun
  | [d1, d2] => { results := [.lit (.bool false)], args := [d1, d2] }
  | _ => none }
def SizeSidesWrongFalsely : Prop := sizeSidesRow.holds Try.pinned (OpenSpec.ofChange sizeSidesWrong)

/- THE SECOND FORM. 'bulk': how many values and letters a reading holds, each counted each time it is reached (what is shared counts as often as it is met; a slice's spare places count too). A statement '..UptoSaid' is the law's where the arguments, and the package variables that the reading takes, are together of bulk at most 1048576: NARROWER than '..Said'. Prove '..Said' where nothing that the law and all that it calls make is longer than what came in: it says more and counts as full. Else prove '..UptoSaid'. A law counts once. -/
mutual
def uptoBulk {H : Type} : DataW H → Nat
  | .lit (.string bytes) => bytes.length + 1
  | .lit _ => 1
  | .nil => 1
  | .ptr d => uptoBulk d + 1
  | .slice elems spare => uptoBulkAll elems + uptoBulkAll spare + 1
  | .agg parts => uptoBulkAll parts + 1
  | .iface _ d => uptoBulk d + 1
  | .map entries => uptoBulkEntries entries + 1
  | .held _ => 1
def uptoBulkAll {H : Type} : List (DataW H) → Nat
  | [] => 0
  | d :: r => uptoBulk d + uptoBulkAll r
def uptoBulkEntries {H : Type} : List (Lit × DataW H) → Nat
  | [] => 0
  | x :: r => uptoBulkEntry x + uptoBulkEntries r
def uptoBulkEntry {H : Type} : Lit × DataW H → Nat
  | (.string bytes, d) => bytes.length + uptoBulk d + 1
  | (_, d) => uptoBulk d + 1
 end
def uptoSmall : (H : Type) → List (DataW H) → Bool := fun _ ds => decide (uptoBulkAll ds ≤ 1048576)
def OpenSpec.upto (s : _root_.Go.ChangeSpec) : _root_.Go.OpenSpec := { _root_.Go.OpenSpec.ofChange s with cond := some uptoSmall }

/-- 'decoupagelaw10.BoundAsks', WHERE WHAT IT READS IS OF BULK AT MOST 1048576: true; the input reads as it did. -/
def boundAsksUptoRow : OpenClaim := { program := "ytpoeebngkakmeaa", sum := "7a426980ea88f28d3b22d92c1e0ce13249fbfc040ec35cf402a77763829bf2be", func := "decoupage/decoupagelaw10.BoundAsks", spec := "boundAsks", unfollowed := true, recurses := true, apart := false, narrowed := true }
def BoundAsksUptoSaid : Prop := boundAsksUptoRow.holds Try.pinned (OpenSpec.upto boundAsksSpec)

/-- 'decoupagelaw10.BoundKeeps', WHERE WHAT IT READS IS OF BULK AT MOST 1048576: true; the input reads as it did. -/
def boundKeepsUptoRow : OpenClaim := { program := "ytpoeebngkakmeaa", sum := "7a426980ea88f28d3b22d92c1e0ce13249fbfc040ec35cf402a77763829bf2be", func := "decoupage/decoupagelaw10.BoundKeeps", spec := "boundKeeps", unfollowed := true, recurses := true, apart := false, narrowed := true }
def BoundKeepsUptoSaid : Prop := boundKeepsUptoRow.holds Try.pinned (OpenSpec.upto boundKeepsSpec)

/-- 'decoupagelaw10.BoundNil', WHERE WHAT IT READS IS OF BULK AT MOST 1048576: true; the input reads as it did. -/
def boundNilUptoRow : OpenClaim := { program := "ytpoeebngkakmeaa", sum := "7a426980ea88f28d3b22d92c1e0ce13249fbfc040ec35cf402a77763829bf2be", func := "decoupage/decoupagelaw10.BoundNil", spec := "boundNil", unfollowed := true, recurses := true, apart := false, narrowed := true }
def BoundNilUptoSaid : Prop := boundNilUptoRow.holds Try.pinned (OpenSpec.upto boundNilSpec)

/-- 'decoupagelaw11.StrutJoins', WHERE WHAT IT READS IS OF BULK AT MOST 1048576: true; the input reads as it did. -/
def strutJoinsUptoRow : OpenClaim := { program := "ytpoeebngkakmeaa", sum := "7a426980ea88f28d3b22d92c1e0ce13249fbfc040ec35cf402a77763829bf2be", func := "decoupage/decoupagelaw11.StrutJoins", spec := "strutJoins", apart := false, narrowed := true }
def StrutJoinsUptoSaid : Prop := strutJoinsUptoRow.holds Try.pinned (OpenSpec.upto strutJoinsSpec)

/-- 'decoupagelaw11.StrutValues', WHERE WHAT IT READS IS OF BULK AT MOST 1048576: true; the input reads as it did. -/
def strutValuesUptoRow : OpenClaim := { program := "ytpoeebngkakmeaa", sum := "7a426980ea88f28d3b22d92c1e0ce13249fbfc040ec35cf402a77763829bf2be", func := "decoupage/decoupagelaw11.StrutValues", spec := "strutValues", apart := false, narrowed := true }
def StrutValuesUptoSaid : Prop := strutValuesUptoRow.holds Try.pinned (OpenSpec.upto strutValuesSpec)

/-- 'decoupagelaw11.StrutLaws', WHERE WHAT IT READS IS OF BULK AT MOST 1048576: true; the input reads as it did. -/
def strutLawsUptoRow : OpenClaim := { program := "ytpoeebngkakmeaa", sum := "7a426980ea88f28d3b22d92c1e0ce13249fbfc040ec35cf402a77763829bf2be", func := "decoupage/decoupagelaw11.StrutLaws", spec := "strutLaws", apart := false, narrowed := true }
def StrutLawsUptoSaid : Prop := strutLawsUptoRow.holds Try.pinned (OpenSpec.upto strutLawsSpec)

/-- 'decoupagelaw09.SizeOr', WHERE WHAT IT READS IS OF BULK AT MOST 1048576: true; the input reads as it did. -/
def sizeOrUptoRow : OpenClaim := { program := "ytpoeebngkakmeaa", sum := "7a426980ea88f28d3b22d92c1e0ce13249fbfc040ec35cf402a77763829bf2be", func := "decoupage/decoupagelaw09.SizeOr", spec := "sizeOr", apart := false, narrowed := true }
def SizeOrUptoSaid : Prop := sizeOrUptoRow.holds Try.pinned (OpenSpec.upto sizeOrSpec)

/-- 'decoupagelaw12.PileParts', WHERE WHAT IT READS IS OF BULK AT MOST 1048576: true; the input reads as it did. -/
def pilePartsUptoRow : OpenClaim := { program := "ytpoeebngkakmeaa", sum := "7a426980ea88f28d3b22d92c1e0ce13249fbfc040ec35cf402a77763829bf2be", func := "decoupage/decoupagelaw12.PileParts", spec := "pileParts", apart := false, narrowed := true }
def PilePartsUptoSaid : Prop := pilePartsUptoRow.holds Try.pinned (OpenSpec.upto pilePartsSpec)

/-- 'decoupagelaw12.PileApart', WHERE WHAT IT READS IS OF BULK AT MOST 1048576: true; the input reads as it did. -/
def pileApartUptoRow : OpenClaim := { program := "ytpoeebngkakmeaa", sum := "7a426980ea88f28d3b22d92c1e0ce13249fbfc040ec35cf402a77763829bf2be", func := "decoupage/decoupagelaw12.PileApart", spec := "pileApart", apart := false, narrowed := true }
def PileApartUptoSaid : Prop := pileApartUptoRow.holds Try.pinned (OpenSpec.upto pileApartSpec)

/-- 'decoupagelaw20.NudgeNone', WHERE WHAT IT READS IS OF BULK AT MOST 1048576: true; the input reads as it did. -/
def nudgeNoneUptoRow : OpenClaim := { program := "ytpoeebngkakmeaa", sum := "7a426980ea88f28d3b22d92c1e0ce13249fbfc040ec35cf402a77763829bf2be", func := "decoupage/decoupagelaw20.NudgeNone", spec := "nudgeNone", apart := false, narrowed := true }
def NudgeNoneUptoSaid : Prop := nudgeNoneUptoRow.holds Try.pinned (OpenSpec.upto nudgeNoneSpec)

/-- 'decoupagelaw20.NudgeMirrors', WHERE WHAT IT READS IS OF BULK AT MOST 1048576: true; the input reads as it did. -/
def nudgeMirrorsUptoRow : OpenClaim := { program := "ytpoeebngkakmeaa", sum := "7a426980ea88f28d3b22d92c1e0ce13249fbfc040ec35cf402a77763829bf2be", func := "decoupage/decoupagelaw20.NudgeMirrors", spec := "nudgeMirrors", apart := false, narrowed := true }
def NudgeMirrorsUptoSaid : Prop := nudgeMirrorsUptoRow.holds Try.pinned (OpenSpec.upto nudgeMirrorsSpec)

/-- 'decoupagelaw09.SizeSides', WHERE WHAT IT READS IS OF BULK AT MOST 1048576: true; the input reads as it did. -/
def sizeSidesUptoRow : OpenClaim := { program := "ytpoeebngkakmeaa", sum := "7a426980ea88f28d3b22d92c1e0ce13249fbfc040ec35cf402a77763829bf2be", func := "decoupage/decoupagelaw09.SizeSides", spec := "sizeSides", named := ["math/bits.divideError", "math/bits.overflowError"], apart := false, narrowed := true }
def SizeSidesUptoSaid : Prop := sizeSidesUptoRow.holds Try.pinned (OpenSpec.upto sizeSidesSpec)

end Rows
end Go.Proofs.Ytpoeebngkakmeaa
