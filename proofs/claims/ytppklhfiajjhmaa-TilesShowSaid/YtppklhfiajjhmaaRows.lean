/-
  No cell of these rows narrows 'for every input' (looked for: loops, veiled, ifaces, maps, wideKeys, modest, calm, conditions, laid).
  DERIVED. THE GIVEN ROWS OF THIS SEAT. 11 by the template 'for every input the law returns true; each argument reads behind the call as it read before'; 0 by the template 'total and deterministic' (their statements: YtppklhfiajjhmaaTotals.lean).
  GIVEN WITH THE SEED: the statements are not yours to turn. If you find one false, say at which input.
  Laid BY PROGRAM, IN A SANDBOX (cutbox-rows.mjs): the forced cells as the released guide's own fill.sh prints them over the translation b556117de8995662… (all of the seat's roots in one cut). By AI agents, Wed Nov 11 2026. No macro, syntax, notation, axiom, sorry.
-/
import Derived.Test.YtppklhfiajjhmaaChecked
import GoSem.Claim
import GoSem.ClaimJoined
import GoSem.ClaimMapViews
import Derived.JoinedTies
import Derived.KernelRfl
namespace Go.Proofs.Ytppklhfiajjhmaa
/- THE CELL 'sum', in the pinned program and in every row, IS THE sha256 OF THE DUMP (.gsa) THAT YtppklhfiajjhmaaProg.lean LOADS. Nothing in Lean hashes anything: it is a label: what it is worth is what the hold of that sum in a sandbox is worth. -/
noncomputable def Try.pinned : Pinned := { name := "ytppklhfiajjhmaa", sum := "b556117de899566227a30911a573fc03a8907a2f810963fa56d33191e29d35b7", checked := Try.checked }
namespace Rows
def none {H : Type} : Left H := { results := [], args := [] }

/-- 'decoupagelaw29.HarmTells': WHATEVER THE INPUT: true; the input reads as it did. -/
def harmTellsSpec : ChangeSpec := { name := "harmTells", fn := fun _ => fun
  | [d1, d2] => { results := [.lit (.bool true)], args := [d1, d2] }
  | _ => none }
def harmTellsRow : OpenClaim := { program := "ytppklhfiajjhmaa", sum := "b556117de899566227a30911a573fc03a8907a2f810963fa56d33191e29d35b7", func := "decoupage/decoupagelaw29.HarmTells", spec := "harmTells", recurses := true, apart := false }
def HarmTellsSaid : Prop := harmTellsRow.holds Try.pinned (OpenSpec.ofChange harmTellsSpec)

/-- ITS FALSE NEIGHBOUR: 'it returns false'. Refute it at one input. -/
def harmTellsWrong : ChangeSpec := { name := "harmTells", fn := fun _ => fun
  | [d1, d2] => { results := [.lit (.bool false)], args := [d1, d2] }
  | _ => none }
def HarmTellsWrongFalsely : Prop := harmTellsRow.holds Try.pinned (OpenSpec.ofChange harmTellsWrong)

/-- 'decoupagelaw29.HarmBounds': WHATEVER THE INPUT: true; the input reads as it did. -/
def harmBoundsSpec : ChangeSpec := { name := "harmBounds", fn := fun _ => fun
  | [d1, d2, d3, d4, d5, d6] => { results := [.lit (.bool true)], args := [d1, d2, d3, d4, d5, d6] }
  | _ => none }
def harmBoundsRow : OpenClaim := { program := "ytppklhfiajjhmaa", sum := "b556117de899566227a30911a573fc03a8907a2f810963fa56d33191e29d35b7", func := "decoupage/decoupagelaw29.HarmBounds", spec := "harmBounds", apart := false }
def HarmBoundsSaid : Prop := harmBoundsRow.holds Try.pinned (OpenSpec.ofChange harmBoundsSpec)

/-- ITS FALSE NEIGHBOUR: 'it returns false'. Refute it at one input. -/
def harmBoundsWrong : ChangeSpec := { name := "harmBounds", fn := fun _ => fun
  | [d1, d2, d3, d4, d5, d6] => { results := [.lit (.bool false)], args := [d1, d2, d3, d4, d5, d6] }
  | _ => none }
def HarmBoundsWrongFalsely : Prop := harmBoundsRow.holds Try.pinned (OpenSpec.ofChange harmBoundsWrong)

/-- 'decoupagelaw29.HarmAlike': WHATEVER THE INPUT: true; the input reads as it did. -/
def harmAlikeSpec : ChangeSpec := { name := "harmAlike", fn := fun _ => fun
  | [d1, d2, d3] => { results := [.lit (.bool true)], args := [d1, d2, d3] }
  | _ => none }
def harmAlikeRow : OpenClaim := { program := "ytppklhfiajjhmaa", sum := "b556117de899566227a30911a573fc03a8907a2f810963fa56d33191e29d35b7", func := "decoupage/decoupagelaw29.HarmAlike", spec := "harmAlike", apart := false }
def HarmAlikeSaid : Prop := harmAlikeRow.holds Try.pinned (OpenSpec.ofChange harmAlikeSpec)

/-- ITS FALSE NEIGHBOUR: 'it returns false'. Refute it at one input. -/
def harmAlikeWrong : ChangeSpec := { name := "harmAlike", fn := fun _ => fun
  | [d1, d2, d3] => { results := [.lit (.bool false)], args := [d1, d2, d3] }
  | _ => none }
def HarmAlikeWrongFalsely : Prop := harmAlikeRow.holds Try.pinned (OpenSpec.ofChange harmAlikeWrong)

/-- 'decoupagelaw29.HarmBoth': WHATEVER THE INPUT: true; the input reads as it did. -/
def harmBothSpec : ChangeSpec := { name := "harmBoth", fn := fun _ => fun
  | [d1, d2, d3, d4] => { results := [.lit (.bool true)], args := [d1, d2, d3, d4] }
  | _ => none }
def harmBothRow : OpenClaim := { program := "ytppklhfiajjhmaa", sum := "b556117de899566227a30911a573fc03a8907a2f810963fa56d33191e29d35b7", func := "decoupage/decoupagelaw29.HarmBoth", spec := "harmBoth", apart := false }
def HarmBothSaid : Prop := harmBothRow.holds Try.pinned (OpenSpec.ofChange harmBothSpec)

/-- ITS FALSE NEIGHBOUR: 'it returns false'. Refute it at one input. -/
def harmBothWrong : ChangeSpec := { name := "harmBoth", fn := fun _ => fun
  | [d1, d2, d3, d4] => { results := [.lit (.bool false)], args := [d1, d2, d3, d4] }
  | _ => none }
def HarmBothWrongFalsely : Prop := harmBothRow.holds Try.pinned (OpenSpec.ofChange harmBothWrong)

/-- 'decoupagelaw28.RasterDraws': WHATEVER THE INPUT: true; the input reads as it did. -/
def rasterDrawsSpec : ChangeSpec := { name := "rasterDraws", fn := fun _ => fun
  | [d1, d2] => { results := [.lit (.bool true)], args := [d1, d2] }
  | _ => none }
def rasterDrawsRow : OpenClaim := { program := "ytppklhfiajjhmaa", sum := "b556117de899566227a30911a573fc03a8907a2f810963fa56d33191e29d35b7", func := "decoupage/decoupagelaw28.RasterDraws", spec := "rasterDraws", recurses := true, apart := false }
def RasterDrawsSaid : Prop := rasterDrawsRow.holds Try.pinned (OpenSpec.ofChange rasterDrawsSpec)

/-- ITS FALSE NEIGHBOUR: 'it returns false'. Refute it at one input. -/
def rasterDrawsWrong : ChangeSpec := { name := "rasterDraws", fn := fun _ => fun
  | [d1, d2] => { results := [.lit (.bool false)], args := [d1, d2] }
  | _ => none }
def RasterDrawsWrongFalsely : Prop := rasterDrawsRow.holds Try.pinned (OpenSpec.ofChange rasterDrawsWrong)

/-- 'decoupagelaw28.RasterRuns': WHATEVER THE INPUT: true; the input reads as it did. -/
def rasterRunsSpec : ChangeSpec := { name := "rasterRuns", fn := fun _ => fun
  | [d1, d2, d3, d4, d5] => { results := [.lit (.bool true)], args := [d1, d2, d3, d4, d5] }
  | _ => none }
def rasterRunsRow : OpenClaim := { program := "ytppklhfiajjhmaa", sum := "b556117de899566227a30911a573fc03a8907a2f810963fa56d33191e29d35b7", func := "decoupage/decoupagelaw28.RasterRuns", spec := "rasterRuns", recurses := true, apart := false }
def RasterRunsSaid : Prop := rasterRunsRow.holds Try.pinned (OpenSpec.ofChange rasterRunsSpec)

/-- ITS FALSE NEIGHBOUR: 'it returns false'. Refute it at one input. -/
def rasterRunsWrong : ChangeSpec := { name := "rasterRuns", fn := fun _ => fun
  | [d1, d2, d3, d4, d5] => { results := [.lit (.bool false)], args := [d1, d2, d3, d4, d5] }
  | _ => none }
def RasterRunsWrongFalsely : Prop := rasterRunsRow.holds Try.pinned (OpenSpec.ofChange rasterRunsWrong)

/-- 'decoupagelaw28.RasterShifts': WHATEVER THE INPUT: true; the input reads as it did. -/
def rasterShiftsSpec : ChangeSpec := { name := "rasterShifts", fn := fun _ => fun
  | [d1, d2, d3, d4] => { results := [.lit (.bool true)], args := [d1, d2, d3, d4] }
  | _ => none }
def rasterShiftsRow : OpenClaim := { program := "ytppklhfiajjhmaa", sum := "b556117de899566227a30911a573fc03a8907a2f810963fa56d33191e29d35b7", func := "decoupage/decoupagelaw28.RasterShifts", spec := "rasterShifts", recurses := true, apart := false }
def RasterShiftsSaid : Prop := rasterShiftsRow.holds Try.pinned (OpenSpec.ofChange rasterShiftsSpec)

/-- ITS FALSE NEIGHBOUR: 'it returns false'. Refute it at one input. -/
def rasterShiftsWrong : ChangeSpec := { name := "rasterShifts", fn := fun _ => fun
  | [d1, d2, d3, d4] => { results := [.lit (.bool false)], args := [d1, d2, d3, d4] }
  | _ => none }
def RasterShiftsWrongFalsely : Prop := rasterShiftsRow.holds Try.pinned (OpenSpec.ofChange rasterShiftsWrong)

/-- 'decoupagelaw34.TilesDraw': WHATEVER THE INPUT: true; the input reads as it did. -/
def tilesDrawSpec : ChangeSpec := { name := "tilesDraw", fn := fun _ => fun
  | [d1, d2] => { results := [.lit (.bool true)], args := [d1, d2] }
  | _ => none }
def tilesDrawRow : OpenClaim := { program := "ytppklhfiajjhmaa", sum := "b556117de899566227a30911a573fc03a8907a2f810963fa56d33191e29d35b7", func := "decoupage/decoupagelaw34.TilesDraw", spec := "tilesDraw", recurses := true, apart := false }
def TilesDrawSaid : Prop := tilesDrawRow.holds Try.pinned (OpenSpec.ofChange tilesDrawSpec)

/-- ITS FALSE NEIGHBOUR: 'it returns false'. Refute it at one input. -/
def tilesDrawWrong : ChangeSpec := { name := "tilesDraw", fn := fun _ => fun
  | [d1, d2] => { results := [.lit (.bool false)], args := [d1, d2] }
  | _ => none }
def TilesDrawWrongFalsely : Prop := tilesDrawRow.holds Try.pinned (OpenSpec.ofChange tilesDrawWrong)

/-- 'decoupagelaw34.TilesOwn': WHATEVER THE INPUT: true; the input reads as it did. -/
def tilesOwnSpec : ChangeSpec := { name := "tilesOwn", fn := fun _ => fun
  | [d1, d2] => { results := [.lit (.bool true)], args := [d1, d2] }
  | _ => none }
def tilesOwnRow : OpenClaim := { program := "ytppklhfiajjhmaa", sum := "b556117de899566227a30911a573fc03a8907a2f810963fa56d33191e29d35b7", func := "decoupage/decoupagelaw34.TilesOwn", spec := "tilesOwn", recurses := true, apart := false }
def TilesOwnSaid : Prop := tilesOwnRow.holds Try.pinned (OpenSpec.ofChange tilesOwnSpec)

/-- ITS FALSE NEIGHBOUR: 'it returns false'. Refute it at one input. -/
def tilesOwnWrong : ChangeSpec := { name := "tilesOwn", fn := fun _ => fun
  | [d1, d2] => { results := [.lit (.bool false)], args := [d1, d2] }
  | _ => none }
def TilesOwnWrongFalsely : Prop := tilesOwnRow.holds Try.pinned (OpenSpec.ofChange tilesOwnWrong)

/-- 'decoupagelaw34.TilesShow': WHATEVER THE INPUT: true; the input reads as it did. -/
def tilesShowSpec : ChangeSpec := { name := "tilesShow", fn := fun _ => fun
  | [d1, d2, d3, d4] => { results := [.lit (.bool true)], args := [d1, d2, d3, d4] }
  | _ => none }
def tilesShowRow : OpenClaim := { program := "ytppklhfiajjhmaa", sum := "b556117de899566227a30911a573fc03a8907a2f810963fa56d33191e29d35b7", func := "decoupage/decoupagelaw34.TilesShow", spec := "tilesShow", recurses := true, apart := false }
def TilesShowSaid : Prop := tilesShowRow.holds Try.pinned (OpenSpec.ofChange tilesShowSpec)

/-- ITS FALSE NEIGHBOUR: 'it returns false'. Refute it at one input. -/
def tilesShowWrong : ChangeSpec := { name := "tilesShow", fn := fun _ => fun
  | [d1, d2, d3, d4] => { results := [.lit (.bool false)], args := [d1, d2, d3, d4] }
  | _ => none }
def TilesShowWrongFalsely : Prop := tilesShowRow.holds Try.pinned (OpenSpec.ofChange tilesShowWrong)

/-- 'decoupagelaw34.TilesNil': WHATEVER THE INPUT: true; the input reads as it did. -/
def tilesNilSpec : ChangeSpec := { name := "tilesNil", fn := fun _ => fun
  | [d1, d2, d3] => { results := [.lit (.bool true)], args := [d1, d2, d3] }
  | _ => none }
def tilesNilRow : OpenClaim := { program := "ytppklhfiajjhmaa", sum := "b556117de899566227a30911a573fc03a8907a2f810963fa56d33191e29d35b7", func := "decoupage/decoupagelaw34.TilesNil", spec := "tilesNil", recurses := true, apart := false }
def TilesNilSaid : Prop := tilesNilRow.holds Try.pinned (OpenSpec.ofChange tilesNilSpec)

/-- ITS FALSE NEIGHBOUR: 'it returns false'. Refute it at one input. -/
def tilesNilWrong : ChangeSpec := { name := "tilesNil", fn := fun _ => fun
  | [d1, d2, d3] => { results := [.lit (.bool false)], args := [d1, d2, d3] }
  | _ => none }
def TilesNilWrongFalsely : Prop := tilesNilRow.holds Try.pinned (OpenSpec.ofChange tilesNilWrong)

/- THE SECOND FORM. 'bulk': how many values and letters a reading holds, each counted each time it is reached (what is shared counts as often as it is met; a slice's spare places count too). A statement '..UptoSaid' is the law's where the arguments, and the package variables that the reading takes, are together of bulk at most 1048576: NARROWER than '..Said'. Prove '..Said' where nothing that the law and all that it calls make is longer than what came in: it says more and counts as full. Else prove '..UptoSaid'. A law counts once. -/
mutual
def uptoBulk {H : Type} : DataW H → Nat
  | .lit (.string bytes) => bytes.length + 1
  | .lit _ => 1
  | .nil => 1
  | .ptr d => uptoBulk d + 1
  | .slice elems spare => uptoBulkAll elems + uptoBulkAll spare + 1
  | .agg parts => uptoBulkAll parts + 1
  | .iface _ d => uptoBulk d + 1
  | .map entries => uptoBulkEntries entries + 1
  | .held _ => 1
def uptoBulkAll {H : Type} : List (DataW H) → Nat
  | [] => 0
  | d :: r => uptoBulk d + uptoBulkAll r
def uptoBulkEntries {H : Type} : List (Lit × DataW H) → Nat
  | [] => 0
  | x :: r => uptoBulkEntry x + uptoBulkEntries r
def uptoBulkEntry {H : Type} : Lit × DataW H → Nat
  | (.string bytes, d) => bytes.length + uptoBulk d + 1
  | (_, d) => uptoBulk d + 1
 end
def uptoSmall : (H : Type) → List (DataW H) → Bool := fun _ ds => decide (uptoBulkAll ds ≤ 1048576)
def OpenSpec.upto (s : _root_.Go.ChangeSpec) : _root_.Go.OpenSpec := { _root_.Go.OpenSpec.ofChange s with cond := some uptoSmall }

/-- 'decoupagelaw29.HarmTells', WHERE WHAT IT READS IS OF BULK AT MOST 1048576: true; the input reads as it did. -/
def harmTellsUptoRow : OpenClaim := { program := "ytppklhfiajjhmaa", sum := "b556117de899566227a30911a573fc03a8907a2f810963fa56d33191e29d35b7", func := "decoupage/decoupagelaw29.HarmTells", spec := "harmTells", recurses := true, apart := false, narrowed := true }
def HarmTellsUptoSaid : Prop := harmTellsUptoRow.holds Try.pinned (OpenSpec.upto harmTellsSpec)

/-- 'decoupagelaw29.HarmBounds', WHERE WHAT IT READS IS OF BULK AT MOST 1048576: true; the input reads as it did. -/
def harmBoundsUptoRow : OpenClaim := { program := "ytppklhfiajjhmaa", sum := "b556117de899566227a30911a573fc03a8907a2f810963fa56d33191e29d35b7", func := "decoupage/decoupagelaw29.HarmBounds", spec := "harmBounds", apart := false, narrowed := true }
def HarmBoundsUptoSaid : Prop := harmBoundsUptoRow.holds Try.pinned (OpenSpec.upto harmBoundsSpec)

/-- 'decoupagelaw29.HarmAlike', WHERE WHAT IT READS IS OF BULK AT MOST 1048576: true; the input reads as it did. -/
def harmAlikeUptoRow : OpenClaim := { program := "ytppklhfiajjhmaa", sum := "b556117de899566227a30911a573fc03a8907a2f810963fa56d33191e29d35b7", func := "decoupage/decoupagelaw29.HarmAlike", spec := "harmAlike", apart := false, narrowed := true }
def HarmAlikeUptoSaid : Prop := harmAlikeUptoRow.holds Try.pinned (OpenSpec.upto harmAlikeSpec)

/-- 'decoupagelaw29.HarmBoth', WHERE WHAT IT READS IS OF BULK AT MOST 1048576: true; the input reads as it did. -/
def harmBothUptoRow : OpenClaim := { program := "ytppklhfiajjhmaa", sum := "b556117de899566227a30911a573fc03a8907a2f810963fa56d33191e29d35b7", func := "decoupage/decoupagelaw29.HarmBoth", spec := "harmBoth", apart := false, narrowed := true }
def HarmBothUptoSaid : Prop := harmBothUptoRow.holds Try.pinned (OpenSpec.upto harmBothSpec)

/-- 'decoupagelaw28.RasterDraws', WHERE WHAT IT READS IS OF BULK AT MOST 1048576: true; the input reads as it did. -/
def rasterDrawsUptoRow : OpenClaim := { program := "ytppklhfiajjhmaa", sum := "b556117de899566227a30911a573fc03a8907a2f810963fa56d33191e29d35b7", func := "decoupage/decoupagelaw28.RasterDraws", spec := "rasterDraws", recurses := true, apart := false, narrowed := true }
def RasterDrawsUptoSaid : Prop := rasterDrawsUptoRow.holds Try.pinned (OpenSpec.upto rasterDrawsSpec)

/-- 'decoupagelaw28.RasterRuns', WHERE WHAT IT READS IS OF BULK AT MOST 1048576: true; the input reads as it did. -/
def rasterRunsUptoRow : OpenClaim := { program := "ytppklhfiajjhmaa", sum := "b556117de899566227a30911a573fc03a8907a2f810963fa56d33191e29d35b7", func := "decoupage/decoupagelaw28.RasterRuns", spec := "rasterRuns", recurses := true, apart := false, narrowed := true }
def RasterRunsUptoSaid : Prop := rasterRunsUptoRow.holds Try.pinned (OpenSpec.upto rasterRunsSpec)

/-- 'decoupagelaw28.RasterShifts', WHERE WHAT IT READS IS OF BULK AT MOST 1048576: true; the input reads as it did. -/
def rasterShiftsUptoRow : OpenClaim := { program := "ytppklhfiajjhmaa", sum := "b556117de899566227a30911a573fc03a8907a2f810963fa56d33191e29d35b7", func := "decoupage/decoupagelaw28.RasterShifts", spec := "rasterShifts", recurses := true, apart := false, narrowed := true }
def RasterShiftsUptoSaid : Prop := rasterShiftsUptoRow.holds Try.pinned (OpenSpec.upto rasterShiftsSpec)

/-- 'decoupagelaw34.TilesDraw', WHERE WHAT IT READS IS OF BULK AT MOST 1048576: true; the input reads as it did. -/
def tilesDrawUptoRow : OpenClaim := { program := "ytppklhfiajjhmaa", sum := "b556117de899566227a30911a573fc03a8907a2f810963fa56d33191e29d35b7", func := "decoupage/decoupagelaw34.TilesDraw", spec := "tilesDraw", recurses := true, apart := false, narrowed := true }
def TilesDrawUptoSaid : Prop := tilesDrawUptoRow.holds Try.pinned (OpenSpec.upto tilesDrawSpec)

/-- 'decoupagelaw34.TilesOwn', WHERE WHAT IT READS IS OF BULK AT MOST 1048576: true; the input reads as it did. -/
def tilesOwnUptoRow : OpenClaim := { program := "ytppklhfiajjhmaa", sum := "b556117de899566227a30911a573fc03a8907a2f810963fa56d33191e29d35b7", func := "decoupage/decoupagelaw34.TilesOwn", spec := "tilesOwn", recurses := true, apart := false, narrowed := true }
def TilesOwnUptoSaid : Prop := tilesOwnUptoRow.holds Try.pinned (OpenSpec.upto tilesOwnSpec)

/-- 'decoupagelaw34.TilesShow', WHERE WHAT IT READS IS OF BULK AT MOST 1048576: true; the input reads as it did. -/
def tilesShowUptoRow : OpenClaim := { program := "ytppklhfiajjhmaa", sum := "b556117de899566227a30911a573fc03a8907a2f810963fa56d33191e29d35b7", func := "decoupage/decoupagelaw34.TilesShow", spec := "tilesShow", recurses := true, apart := false, narrowed := true }
def TilesShowUptoSaid : Prop := tilesShowUptoRow.holds Try.pinned (OpenSpec.upto tilesShowSpec)

/-- 'decoupagelaw34.TilesNil', WHERE WHAT IT READS IS OF BULK AT MOST 1048576: true; the input reads as it did. -/
def tilesNilUptoRow : OpenClaim := { program := "ytppklhfiajjhmaa", sum := "b556117de899566227a30911a573fc03a8907a2f810963fa56d33191e29d35b7", func := "decoupage/decoupagelaw34.TilesNil", spec := "tilesNil", recurses := true, apart := false, narrowed := true }
def TilesNilUptoSaid : Prop := tilesNilUptoRow.holds Try.pinned (OpenSpec.upto tilesNilSpec)

end Rows
end Go.Proofs.Ytppklhfiajjhmaa
