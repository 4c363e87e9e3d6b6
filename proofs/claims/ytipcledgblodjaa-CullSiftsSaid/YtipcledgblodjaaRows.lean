/-
  No cell of these rows narrows 'for every input' (looked for: loops, veiled, ifaces, maps, wideKeys, modest, calm, conditions, laid).
  DERIVED. THE GIVEN ROWS OF THIS SEAT. 11 by the template 'for every input the law returns true; each argument reads behind the call as it read before'; 0 by the template 'total and deterministic' (their statements: YtipcledgblodjaaTotals.lean).
  GIVEN WITH THE SEED: the statements are not yours to turn. If you find one false, say at which input.
  Laid BY PROGRAM, IN A SANDBOX (cutbox-rows.mjs): the forced cells as the released guide's own fill.sh prints them over the translation ce2cc6b856be3d68… (all of the seat's roots in one cut). By AI agents, Wed Nov 11 2026. No macro, syntax, notation, axiom, sorry.
-/
import Derived.Test.YtipcledgblodjaaChecked
import GoSem.Claim
import GoSem.ClaimJoined
import GoSem.ClaimMapViews
import Derived.JoinedTies
import Derived.KernelRfl
namespace Go.Proofs.Ytipcledgblodjaa
/- THE CELL 'sum', in the pinned program and in every row, IS THE sha256 OF THE DUMP (.gsa) THAT YtipcledgblodjaaProg.lean LOADS. Nothing in Lean hashes anything: it is a label: what it is worth is what the hold of that sum in a sandbox is worth. -/
noncomputable def Try.pinned : Pinned := { name := "ytipcledgblodjaa", sum := "ce2cc6b856be3d683efdacc48fc0372f0ee56e4685c2963478c519fb8c295b98", checked := Try.checked }
namespace Rows
def none {H : Type} : Left H := { results := [], args := [] }

/-- 'decoupagelaw26.OwnerBehind': WHATEVER THE INPUT: true; the input reads as it did. -/
def ownerBehindSpec : ChangeSpec := { name := "ownerBehind", fn := fun _ => fun
  | [d1, d2, d3, d4] => { results := [.lit (.bool true)], args := [d1, d2, d3, d4] }
  | _ => none }
def ownerBehindRow : OpenClaim := { program := "ytipcledgblodjaa", sum := "ce2cc6b856be3d683efdacc48fc0372f0ee56e4685c2963478c519fb8c295b98", func := "decoupage/decoupagelaw26.OwnerBehind", spec := "ownerBehind", apart := false }
def OwnerBehindSaid : Prop := ownerBehindRow.holds Try.pinned (OpenSpec.ofChange ownerBehindSpec)

/-- ITS FALSE NEIGHBOUR: 'it returns false'. Refute it at one input. -/
def ownerBehindWrong : ChangeSpec := { name := "ownerBehind", fn := fun _ => fun
  | [d1, d2, d3, d4] => { results := [.lit (.bool false)], args := [d1, d2, d3, d4] }
  | _ => none }
def OwnerBehindWrongFalsely : Prop := ownerBehindRow.holds Try.pinned (OpenSpec.ofChange ownerBehindWrong)

/-- 'decoupagelaw26.OwnerAll': WHATEVER THE INPUT: true; the input reads as it did. -/
def ownerAllSpec : ChangeSpec := { name := "ownerAll", fn := fun _ => fun
  | [d1, d2, d3] => { results := [.lit (.bool true)], args := [d1, d2, d3] }
  | _ => none }
def ownerAllRow : OpenClaim := { program := "ytipcledgblodjaa", sum := "ce2cc6b856be3d683efdacc48fc0372f0ee56e4685c2963478c519fb8c295b98", func := "decoupage/decoupagelaw26.OwnerAll", spec := "ownerAll", apart := false }
def OwnerAllSaid : Prop := ownerAllRow.holds Try.pinned (OpenSpec.ofChange ownerAllSpec)

/-- ITS FALSE NEIGHBOUR: 'it returns false'. Refute it at one input. -/
def ownerAllWrong : ChangeSpec := { name := "ownerAll", fn := fun _ => fun
  | [d1, d2, d3] => { results := [.lit (.bool false)], args := [d1, d2, d3] }
  | _ => none }
def OwnerAllWrongFalsely : Prop := ownerAllRow.holds Try.pinned (OpenSpec.ofChange ownerAllWrong)

/-- 'decoupagelaw26.OwnerTells': WHATEVER THE INPUT: true; the input reads as it did. -/
def ownerTellsSpec : ChangeSpec := { name := "ownerTells", fn := fun _ => fun
  | [d1, d2, d3] => { results := [.lit (.bool true)], args := [d1, d2, d3] }
  | _ => none }
def ownerTellsRow : OpenClaim := { program := "ytipcledgblodjaa", sum := "ce2cc6b856be3d683efdacc48fc0372f0ee56e4685c2963478c519fb8c295b98", func := "decoupage/decoupagelaw26.OwnerTells", spec := "ownerTells", apart := false }
def OwnerTellsSaid : Prop := ownerTellsRow.holds Try.pinned (OpenSpec.ofChange ownerTellsSpec)

/-- ITS FALSE NEIGHBOUR: 'it returns false'. Refute it at one input. -/
def ownerTellsWrong : ChangeSpec := { name := "ownerTells", fn := fun _ => fun
  | [d1, d2, d3] => { results := [.lit (.bool false)], args := [d1, d2, d3] }
  | _ => none }
def OwnerTellsWrongFalsely : Prop := ownerTellsRow.holds Try.pinned (OpenSpec.ofChange ownerTellsWrong)

/-- 'decoupagelaw03.CoverRests': WHATEVER THE INPUT: true; the input reads as it did. -/
def coverRestsSpec : ChangeSpec := { name := "coverRests", fn := fun _ => fun
  | [d1, d2, d3, d4] => { results := [.lit (.bool true)], args := [d1, d2, d3, d4] }
  | _ => none }
def coverRestsRow : OpenClaim := { program := "ytipcledgblodjaa", sum := "ce2cc6b856be3d683efdacc48fc0372f0ee56e4685c2963478c519fb8c295b98", func := "decoupage/decoupagelaw03.CoverRests", spec := "coverRests", recurses := true, apart := false }
def CoverRestsSaid : Prop := coverRestsRow.holds Try.pinned (OpenSpec.ofChange coverRestsSpec)

/-- ITS FALSE NEIGHBOUR: 'it returns false'. Refute it at one input. -/
def coverRestsWrong : ChangeSpec := { name := "coverRests", fn := fun _ => fun
  | [d1, d2, d3, d4] => { results := [.lit (.bool false)], args := [d1, d2, d3, d4] }
  | _ => none }
def CoverRestsWrongFalsely : Prop := coverRestsRow.holds Try.pinned (OpenSpec.ofChange coverRestsWrong)

/-- 'decoupagelaw03.CoverAll': WHATEVER THE INPUT: true; the input reads as it did. -/
def coverAllSpec : ChangeSpec := { name := "coverAll", fn := fun _ => fun
  | [d1, d2] => { results := [.lit (.bool true)], args := [d1, d2] }
  | _ => none }
def coverAllRow : OpenClaim := { program := "ytipcledgblodjaa", sum := "ce2cc6b856be3d683efdacc48fc0372f0ee56e4685c2963478c519fb8c295b98", func := "decoupage/decoupagelaw03.CoverAll", spec := "coverAll", apart := false }
def CoverAllSaid : Prop := coverAllRow.holds Try.pinned (OpenSpec.ofChange coverAllSpec)

/-- ITS FALSE NEIGHBOUR: 'it returns false'. Refute it at one input. -/
def coverAllWrong : ChangeSpec := { name := "coverAll", fn := fun _ => fun
  | [d1, d2] => { results := [.lit (.bool false)], args := [d1, d2] }
  | _ => none }
def CoverAllWrongFalsely : Prop := coverAllRow.holds Try.pinned (OpenSpec.ofChange coverAllWrong)

/-- 'decoupagelaw03.CoverApart': WHATEVER THE INPUT: true; the input reads as it did. -/
def coverApartSpec : ChangeSpec := { name := "coverApart", fn := fun _ => fun
  | [d] => { results := [.lit (.bool true)], args := [d] }
  | _ => none }
def coverApartRow : OpenClaim := { program := "ytipcledgblodjaa", sum := "ce2cc6b856be3d683efdacc48fc0372f0ee56e4685c2963478c519fb8c295b98", func := "decoupage/decoupagelaw03.CoverApart", spec := "coverApart", apart := false }
def CoverApartSaid : Prop := coverApartRow.holds Try.pinned (OpenSpec.ofChange coverApartSpec)

/-- ITS FALSE NEIGHBOUR: 'it returns false'. Refute it at one input. -/
def coverApartWrong : ChangeSpec := { name := "coverApart", fn := fun _ => fun
  | [d] => { results := [.lit (.bool false)], args := [d] }
  | _ => none }
def CoverApartWrongFalsely : Prop := coverApartRow.holds Try.pinned (OpenSpec.ofChange coverApartWrong)

/-- 'decoupagelaw03.CoverJoins': WHATEVER THE INPUT: true; the input reads as it did. -/
def coverJoinsSpec : ChangeSpec := { name := "coverJoins", fn := fun _ => fun
  | [d1, d2, d3] => { results := [.lit (.bool true)], args := [d1, d2, d3] }
  | _ => none }
def coverJoinsRow : OpenClaim := { program := "ytipcledgblodjaa", sum := "ce2cc6b856be3d683efdacc48fc0372f0ee56e4685c2963478c519fb8c295b98", func := "decoupage/decoupagelaw03.CoverJoins", spec := "coverJoins", recurses := true, apart := false }
def CoverJoinsSaid : Prop := coverJoinsRow.holds Try.pinned (OpenSpec.ofChange coverJoinsSpec)

/-- ITS FALSE NEIGHBOUR: 'it returns false'. Refute it at one input. -/
def coverJoinsWrong : ChangeSpec := { name := "coverJoins", fn := fun _ => fun
  | [d1, d2, d3] => { results := [.lit (.bool false)], args := [d1, d2, d3] }
  | _ => none }
def CoverJoinsWrongFalsely : Prop := coverJoinsRow.holds Try.pinned (OpenSpec.ofChange coverJoinsWrong)

/-- 'decoupagelaw27.CullTells': WHATEVER THE INPUT: true; the input reads as it did. -/
def cullTellsSpec : ChangeSpec := { name := "cullTells", fn := fun _ => fun
  | [d1, d2] => { results := [.lit (.bool true)], args := [d1, d2] }
  | _ => none }
def cullTellsRow : OpenClaim := { program := "ytipcledgblodjaa", sum := "ce2cc6b856be3d683efdacc48fc0372f0ee56e4685c2963478c519fb8c295b98", func := "decoupage/decoupagelaw27.CullTells", spec := "cullTells", apart := false }
def CullTellsSaid : Prop := cullTellsRow.holds Try.pinned (OpenSpec.ofChange cullTellsSpec)

/-- ITS FALSE NEIGHBOUR: 'it returns false'. Refute it at one input. -/
def cullTellsWrong : ChangeSpec := { name := "cullTells", fn := fun _ => fun
  | [d1, d2] => { results := [.lit (.bool false)], args := [d1, d2] }
  | _ => none }
def CullTellsWrongFalsely : Prop := cullTellsRow.holds Try.pinned (OpenSpec.ofChange cullTellsWrong)

/-- 'decoupagelaw27.CullSifts': WHATEVER THE INPUT: true; the input reads as it did. -/
def cullSiftsSpec : ChangeSpec := { name := "cullSifts", fn := fun _ => fun
  | [d] => { results := [.lit (.bool true)], args := [d] }
  | _ => none }
def cullSiftsRow : OpenClaim := { program := "ytipcledgblodjaa", sum := "ce2cc6b856be3d683efdacc48fc0372f0ee56e4685c2963478c519fb8c295b98", func := "decoupage/decoupagelaw27.CullSifts", spec := "cullSifts", apart := false }
def CullSiftsSaid : Prop := cullSiftsRow.holds Try.pinned (OpenSpec.ofChange cullSiftsSpec)

/-- ITS FALSE NEIGHBOUR: 'it returns false'. Refute it at one input. -/
def cullSiftsWrong : ChangeSpec := { name := "cullSifts", fn := fun _ => fun
  | [d] => { results := [.lit (.bool false)], args := [d] }
  | _ => none }
def CullSiftsWrongFalsely : Prop := cullSiftsRow.holds Try.pinned (OpenSpec.ofChange cullSiftsWrong)

/-- 'decoupagelaw27.CullOwners': WHATEVER THE INPUT: true; the input reads as it did. -/
def cullOwnersSpec : ChangeSpec := { name := "cullOwners", fn := fun _ => fun
  | [d1, d2, d3] => { results := [.lit (.bool true)], args := [d1, d2, d3] }
  | _ => none }
def cullOwnersRow : OpenClaim := { program := "ytipcledgblodjaa", sum := "ce2cc6b856be3d683efdacc48fc0372f0ee56e4685c2963478c519fb8c295b98", func := "decoupage/decoupagelaw27.CullOwners", spec := "cullOwners", apart := false }
def CullOwnersSaid : Prop := cullOwnersRow.holds Try.pinned (OpenSpec.ofChange cullOwnersSpec)

/-- ITS FALSE NEIGHBOUR: 'it returns false'. Refute it at one input. -/
def cullOwnersWrong : ChangeSpec := { name := "cullOwners", fn := fun _ => fun
  | [d1, d2, d3] => { results := [.lit (.bool false)], args := [d1, d2, d3] }
  | _ => none }
def CullOwnersWrongFalsely : Prop := cullOwnersRow.holds Try.pinned (OpenSpec.ofChange cullOwnersWrong)

/-- 'decoupagelaw27.CullTwice': WHATEVER THE INPUT: true; the input reads as it did. -/
def cullTwiceSpec : ChangeSpec := { name := "cullTwice", fn := fun _ => fun
  | [d] => { results := [.lit (.bool true)], args := [d] }
  | _ => none }
def cullTwiceRow : OpenClaim := { program := "ytipcledgblodjaa", sum := "ce2cc6b856be3d683efdacc48fc0372f0ee56e4685c2963478c519fb8c295b98", func := "decoupage/decoupagelaw27.CullTwice", spec := "cullTwice", apart := false }
def CullTwiceSaid : Prop := cullTwiceRow.holds Try.pinned (OpenSpec.ofChange cullTwiceSpec)

/-- ITS FALSE NEIGHBOUR: 'it returns false'. Refute it at one input. -/
def cullTwiceWrong : ChangeSpec := { name := "cullTwice", fn := fun _ => fun
  | [d] => { results := [.lit (.bool false)], args := [d] }
  | _ => none }
def CullTwiceWrongFalsely : Prop := cullTwiceRow.holds Try.pinned (OpenSpec.ofChange cullTwiceWrong)

/- THE SECOND FORM. 'bulk': how many values and letters a reading holds, each counted each time it is reached (what is shared counts as often as it is met; a slice's spare places count too). A statement '..UptoSaid' is the law's where the arguments, and the package variables that the reading takes, are together of bulk at most 1048576: NARROWER than '..Said'. Prove '..Said' where nothing that the law and all that it calls make is longer than what came in: it says more and counts as full. Else prove '..UptoSaid'. A law counts once. -/
mutual
def uptoBulk {H : Type} : DataW H → Nat
  | .lit (.string bytes) => bytes.length + 1
  | .lit _ => 1
  | .nil => 1
  | .ptr d => uptoBulk d + 1
  | .slice elems spare => uptoBulkAll elems + uptoBulkAll spare + 1
  | .agg parts => uptoBulkAll parts + 1
  | .iface _ d => uptoBulk d + 1
  | .map entries => uptoBulkEntries entries + 1
  | .held _ => 1
def uptoBulkAll {H : Type} : List (DataW H) → Nat
  | [] => 0
  | d :: r => uptoBulk d + uptoBulkAll r
def uptoBulkEntries {H : Type} : List (Lit × DataW H) → Nat
  | [] => 0
  | x :: r => uptoBulkEntry x + uptoBulkEntries r
def uptoBulkEntry {H : Type} : Lit × DataW H → Nat
  | (.string bytes, d) => bytes.length + uptoBulk d + 1
  | (_, d) => uptoBulk d + 1
 end
def uptoSmall : (H : Type) → List (DataW H) → Bool := fun _ ds => decide (uptoBulkAll ds ≤ 1048576)
def OpenSpec.upto (s : _root_.Go.ChangeSpec) : _root_.Go.OpenSpec := { _root_.Go.OpenSpec.ofChange s with cond := some uptoSmall }

/-- 'decoupagelaw26.OwnerBehind', WHERE WHAT IT READS IS OF BULK AT MOST 1048576: true; the input reads as it did. -/
def ownerBehindUptoRow : OpenClaim := { program := "ytipcledgblodjaa", sum := "ce2cc6b856be3d683efdacc48fc0372f0ee56e4685c2963478c519fb8c295b98", func := "decoupage/decoupagelaw26.OwnerBehind", spec := "ownerBehind", apart := false, narrowed := true }
def OwnerBehindUptoSaid : Prop := ownerBehindUptoRow.holds Try.pinned (OpenSpec.upto ownerBehindSpec)

/-- 'decoupagelaw26.OwnerAll', WHERE WHAT IT READS IS OF BULK AT MOST 1048576: true; the input reads as it did. -/
def ownerAllUptoRow : OpenClaim := { program := "ytipcledgblodjaa", sum := "ce2cc6b856be3d683efdacc48fc0372f0ee56e4685c2963478c519fb8c295b98", func := "decoupage/decoupagelaw26.OwnerAll", spec := "ownerAll", apart := false, narrowed := true }
def OwnerAllUptoSaid : Prop := ownerAllUptoRow.holds Try.pinned (OpenSpec.upto ownerAllSpec)

/-- 'decoupagelaw26.OwnerTells', WHERE WHAT IT READS IS OF BULK AT MOST 1048576: true; the input reads as it did. -/
def ownerTellsUptoRow : OpenClaim := { program := "ytipcledgblodjaa", sum := "ce2cc6b856be3d683efdacc48fc0372f0ee56e4685c2963478c519fb8c295b98", func := "decoupage/decoupagelaw26.OwnerTells", spec := "ownerTells", apart := false, narrowed := true }
def OwnerTellsUptoSaid : Prop := ownerTellsUptoRow.holds Try.pinned (OpenSpec.upto ownerTellsSpec)

/-- 'decoupagelaw03.CoverRests', WHERE WHAT IT READS IS OF BULK AT MOST 1048576: true; the input reads as it did. -/
def coverRestsUptoRow : OpenClaim := { program := "ytipcledgblodjaa", sum := "ce2cc6b856be3d683efdacc48fc0372f0ee56e4685c2963478c519fb8c295b98", func := "decoupage/decoupagelaw03.CoverRests", spec := "coverRests", recurses := true, apart := false, narrowed := true }
def CoverRestsUptoSaid : Prop := coverRestsUptoRow.holds Try.pinned (OpenSpec.upto coverRestsSpec)

/-- 'decoupagelaw03.CoverAll', WHERE WHAT IT READS IS OF BULK AT MOST 1048576: true; the input reads as it did. -/
def coverAllUptoRow : OpenClaim := { program := "ytipcledgblodjaa", sum := "ce2cc6b856be3d683efdacc48fc0372f0ee56e4685c2963478c519fb8c295b98", func := "decoupage/decoupagelaw03.CoverAll", spec := "coverAll", apart := false, narrowed := true }
def CoverAllUptoSaid : Prop := coverAllUptoRow.holds Try.pinned (OpenSpec.upto coverAllSpec)

/-- 'decoupagelaw03.CoverApart', WHERE WHAT IT READS IS OF BULK AT MOST 1048576: true; the input reads as it did. -/
def coverApartUptoRow : OpenClaim := { program := "ytipcledgblodjaa", sum := "ce2cc6b856be3d683efdacc48fc0372f0ee56e4685c2963478c519fb8c295b98", func := "decoupage/decoupagelaw03.CoverApart", spec := "coverApart", apart := false, narrowed := true }
def CoverApartUptoSaid : Prop := coverApartUptoRow.holds Try.pinned (OpenSpec.upto coverApartSpec)

/-- 'decoupagelaw03.CoverJoins', WHERE WHAT IT READS IS OF BULK AT MOST 1048576: true; the input reads as it did. -/
def coverJoinsUptoRow : OpenClaim := { program := "ytipcledgblodjaa", sum := "ce2cc6b856be3d683efdacc48fc0372f0ee56e4685c2963478c519fb8c295b98", func := "decoupage/decoupagelaw03.CoverJoins", spec := "coverJoins", recurses := true, apart := false, narrowed := true }
def CoverJoinsUptoSaid : Prop := coverJoinsUptoRow.holds Try.pinned (OpenSpec.upto coverJoinsSpec)

/-- 'decoupagelaw27.CullTells', WHERE WHAT IT READS IS OF BULK AT MOST 1048576: true; the input reads as it did. -/
def cullTellsUptoRow : OpenClaim := { program := "ytipcledgblodjaa", sum := "ce2cc6b856be3d683efdacc48fc0372f0ee56e4685c2963478c519fb8c295b98", func := "decoupage/decoupagelaw27.CullTells", spec := "cullTells", apart := false, narrowed := true }
def CullTellsUptoSaid : Prop := cullTellsUptoRow.holds Try.pinned (OpenSpec.upto cullTellsSpec)

/-- 'decoupagelaw27.CullSifts', WHERE WHAT IT READS IS OF BULK AT MOST 1048576: true; the input reads as it did. -/
def cullSiftsUptoRow : OpenClaim := { program := "ytipcledgblodjaa", sum := "ce2cc6b856be3d683efdacc48fc0372f0ee56e4685c2963478c519fb8c295b98", func := "decoupage/decoupagelaw27.CullSifts", spec := "cullSifts", apart := false, narrowed := true }
def CullSiftsUptoSaid : Prop := cullSiftsUptoRow.holds Try.pinned (OpenSpec.upto cullSiftsSpec)

/-- 'decoupagelaw27.CullOwners', WHERE WHAT IT READS IS OF BULK AT MOST 1048576: true; the input reads as it did. -/
def cullOwnersUptoRow : OpenClaim := { program := "ytipcledgblodjaa", sum := "ce2cc6b856be3d683efdacc48fc0372f0ee56e4685c2963478c519fb8c295b98", func := "decoupage/decoupagelaw27.CullOwners", spec := "cullOwners", apart := false, narrowed := true }
def CullOwnersUptoSaid : Prop := cullOwnersUptoRow.holds Try.pinned (OpenSpec.upto cullOwnersSpec)

/-- 'decoupagelaw27.CullTwice', WHERE WHAT IT READS IS OF BULK AT MOST 1048576: true; the input reads as it did. -/
def cullTwiceUptoRow : OpenClaim := { program := "ytipcledgblodjaa", sum := "ce2cc6b856be3d683efdacc48fc0372f0ee56e4685c2963478c519fb8c295b98", func := "decoupage/decoupagelaw27.CullTwice", spec := "cullTwice", apart := false, narrowed := true }
def CullTwiceUptoSaid : Prop := cullTwiceUptoRow.holds Try.pinned (OpenSpec.upto cullTwiceSpec)

end Rows
end Go.Proofs.Ytipcledgblodjaa
