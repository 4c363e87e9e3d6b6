/-
  No cell of these rows narrows 'for every input' (looked for: loops, veiled, ifaces, maps, wideKeys, modest, calm, conditions, laid).
  DERIVED. THE GIVEN ROWS OF THIS SEAT. 11 by the template 'for every input the law returns true; each argument reads behind the call as it read before'; 0 by the template 'total and deterministic' (their statements: YtokdpnpldoaepaaTotals.lean).
  GIVEN WITH THE SEED: the statements are not yours to turn. If you find one false, say at which input.
  Laid BY PROGRAM, IN A SANDBOX (cutbox-rows.mjs): the forced cells as the released guide's own fill.sh prints them over the translation da94a9ef3e63131e… (all of the seat's roots in one cut). By AI agents, Wed Nov 11 2026. No macro, syntax, notation, axiom, sorry.
-/
import Derived.Test.YtokdpnpldoaepaaChecked
import GoSem.Claim
import GoSem.ClaimJoined
import GoSem.ClaimMapViews
import Derived.JoinedTies
import Derived.KernelRfl
namespace Go.Proofs.Ytokdpnpldoaepaa
/- THE CELL 'sum', in the pinned program and in every row, IS THE sha256 OF THE DUMP (.gsa) THAT YtokdpnpldoaepaaProg.lean LOADS. Nothing in Lean hashes anything: it is a label: what it is worth is what the hold of that sum in a sandbox is worth. -/
noncomputable def Try.pinned : Pinned := { name := "ytokdpnpldoaepaa", sum := "da94a9ef3e63131e966a81329a9daccadcecb5f23a246d38c0ed280c78964b2b", checked := Try.checked }
namespace Rows
def none {H : Type} : Left H := { results := [], args := [] }

/-- 'decoupagelaw13.AcrossSolves': WHATEVER THE INPUT: true; the input reads as it did. -/
def acrossSolvesSpec : ChangeSpec := { name := "acrossSolves", fn := fun _ => fun
  | [d] => { results := [.lit (.bool true)], args := [d] }
  | _ => none }
def acrossSolvesRow : OpenClaim := { program := "ytokdpnpldoaepaa", sum := "da94a9ef3e63131e966a81329a9daccadcecb5f23a246d38c0ed280c78964b2b", func := "decoupage/decoupagelaw13.AcrossSolves", spec := "acrossSolves", unfollowed := true, recurses := true, apart := false }
def AcrossSolvesSaid : Prop := acrossSolvesRow.holds Try.pinned (OpenSpec.ofChange acrossSolvesSpec)

/-- ITS FALSE NEIGHBOUR: 'it returns false'. Refute it at one input. -/
def acrossSolvesWrong : ChangeSpec := { name := "acrossSolves", fn := fun _ => fun
  | [d] => { results := [.lit (.bool false)], args := [d] }
  | _ => none }
def AcrossSolvesWrongFalsely : Prop := acrossSolvesRow.holds Try.pinned (OpenSpec.ofChange acrossSolvesWrong)

/-- 'decoupagelaw13.AcrossSums': WHATEVER THE INPUT: true; the input reads as it did. -/
def acrossSumsSpec : ChangeSpec := { name := "acrossSums", fn := fun _ => fun
  | [d] => { results := [.lit (.bool true)], args := [d] }
  | _ => none }
def acrossSumsRow : OpenClaim := { program := "ytokdpnpldoaepaa", sum := "da94a9ef3e63131e966a81329a9daccadcecb5f23a246d38c0ed280c78964b2b", func := "decoupage/decoupagelaw13.AcrossSums", spec := "acrossSums", unfollowed := true, recurses := true, apart := false }
def AcrossSumsSaid : Prop := acrossSumsRow.holds Try.pinned (OpenSpec.ofChange acrossSumsSpec)

/-- ITS FALSE NEIGHBOUR: 'it returns false'. Refute it at one input. -/
def acrossSumsWrong : ChangeSpec := { name := "acrossSums", fn := fun _ => fun
  | [d] => { results := [.lit (.bool false)], args := [d] }
  | _ => none }
def AcrossSumsWrongFalsely : Prop := acrossSumsRow.holds Try.pinned (OpenSpec.ofChange acrossSumsWrong)

/-- 'decoupagelaw13.AcrossKeeps': WHATEVER THE INPUT: true; the input reads as it did. -/
def acrossKeepsSpec : ChangeSpec := { name := "acrossKeeps", fn := fun _ => fun
  | [d] => { results := [.lit (.bool true)], args := [d] }
  | _ => none }
def acrossKeepsRow : OpenClaim := { program := "ytokdpnpldoaepaa", sum := "da94a9ef3e63131e966a81329a9daccadcecb5f23a246d38c0ed280c78964b2b", func := "decoupage/decoupagelaw13.AcrossKeeps", spec := "acrossKeeps", unfollowed := true, recurses := true, apart := false }
def AcrossKeepsSaid : Prop := acrossKeepsRow.holds Try.pinned (OpenSpec.ofChange acrossKeepsSpec)

/-- ITS FALSE NEIGHBOUR: 'it returns false'. Refute it at one input. -/
def acrossKeepsWrong : ChangeSpec := { name := "acrossKeeps", fn := fun _ => fun
  | [d] => { results := [.lit (.bool false)], args := [d] }
  | _ => none }
def AcrossKeepsWrongFalsely : Prop := acrossKeepsRow.holds Try.pinned (OpenSpec.ofChange acrossKeepsWrong)

/-- 'decoupagelaw17.DropSolves': WHATEVER THE INPUT: true; the input reads as it did. -/
def dropSolvesSpec : ChangeSpec := { name := "dropSolves", fn := fun _ => fun
  | [d] => { results := [.lit (.bool true)], args := [d] }
  | _ => none }
def dropSolvesRow : OpenClaim := { program := "ytokdpnpldoaepaa", sum := "da94a9ef3e63131e966a81329a9daccadcecb5f23a246d38c0ed280c78964b2b", func := "decoupage/decoupagelaw17.DropSolves", spec := "dropSolves", unfollowed := true, recurses := true, apart := false }
def DropSolvesSaid : Prop := dropSolvesRow.holds Try.pinned (OpenSpec.ofChange dropSolvesSpec)

/-- ITS FALSE NEIGHBOUR: 'it returns false'. Refute it at one input. -/
def dropSolvesWrong : ChangeSpec := { name := "dropSolves", fn := fun _ => fun
  | [d] => { results := [.lit (.bool false)], args := [d] }
  | _ => none }
def DropSolvesWrongFalsely : Prop := dropSolvesRow.holds Try.pinned (OpenSpec.ofChange dropSolvesWrong)

/-- 'decoupagelaw17.DropSums': WHATEVER THE INPUT: true; the input reads as it did. -/
def dropSumsSpec : ChangeSpec := { name := "dropSums", fn := fun _ => fun
  | [d] => { results := [.lit (.bool true)], args := [d] }
  | _ => none }
def dropSumsRow : OpenClaim := { program := "ytokdpnpldoaepaa", sum := "da94a9ef3e63131e966a81329a9daccadcecb5f23a246d38c0ed280c78964b2b", func := "decoupage/decoupagelaw17.DropSums", spec := "dropSums", unfollowed := true, recurses := true, apart := false }
def DropSumsSaid : Prop := dropSumsRow.holds Try.pinned (OpenSpec.ofChange dropSumsSpec)

/-- ITS FALSE NEIGHBOUR: 'it returns false'. Refute it at one input. -/
def dropSumsWrong : ChangeSpec := { name := "dropSums", fn := fun _ => fun
  | [d] => { results := [.lit (.bool false)], args := [d] }
  | _ => none }
def DropSumsWrongFalsely : Prop := dropSumsRow.holds Try.pinned (OpenSpec.ofChange dropSumsWrong)

/-- 'decoupagelaw17.DropKnown': WHATEVER THE INPUT: true; the input reads as it did. -/
def dropKnownSpec : ChangeSpec := { name := "dropKnown", fn := fun _ => fun
  | [d1, d2] => { results := [.lit (.bool true)], args := [d1, d2] }
  | _ => none }
def dropKnownRow : OpenClaim := { program := "ytokdpnpldoaepaa", sum := "da94a9ef3e63131e966a81329a9daccadcecb5f23a246d38c0ed280c78964b2b", func := "decoupage/decoupagelaw17.DropKnown", spec := "dropKnown", unfollowed := true, recurses := true, apart := false }
def DropKnownSaid : Prop := dropKnownRow.holds Try.pinned (OpenSpec.ofChange dropKnownSpec)

/-- ITS FALSE NEIGHBOUR: 'it returns false'. Refute it at one input. -/
def dropKnownWrong : ChangeSpec := { name := "dropKnown", fn := fun _ => fun
  | [d1, d2] => { results := [.lit (.bool false)], args := [d1, d2] }
  | _ => none }
def DropKnownWrongFalsely : Prop := dropKnownRow.holds Try.pinned (OpenSpec.ofChange dropKnownWrong)

/-- 'decoupagelaw17.DropStatic': WHATEVER THE INPUT: true; the input reads as it did. -/
def dropStaticSpec : ChangeSpec := { name := "dropStatic", fn := fun _ => fun
  | [d] => { results := [.lit (.bool true)], args := [d] }
  | _ => none }
def dropStaticRow : OpenClaim := { program := "ytokdpnpldoaepaa", sum := "da94a9ef3e63131e966a81329a9daccadcecb5f23a246d38c0ed280c78964b2b", func := "decoupage/decoupagelaw17.DropStatic", spec := "dropStatic", unfollowed := true, recurses := true, apart := false }
def DropStaticSaid : Prop := dropStaticRow.holds Try.pinned (OpenSpec.ofChange dropStaticSpec)

/-- ITS FALSE NEIGHBOUR: 'it returns false'. Refute it at one input. -/
def dropStaticWrong : ChangeSpec := { name := "dropStatic", fn := fun _ => fun
  | [d] => { results := [.lit (.bool false)], args := [d] }
  | _ => none }
def DropStaticWrongFalsely : Prop := dropStaticRow.holds Try.pinned (OpenSpec.ofChange dropStaticWrong)

/-- 'decoupagelaw16.HangSolves': WHATEVER THE INPUT: true; the input reads as it did. -/
def hangSolvesSpec : ChangeSpec := { name := "hangSolves", fn := fun _ => fun
  | [d] => { results := [.lit (.bool true)], args := [d] }
  | _ => none }
def hangSolvesRow : OpenClaim := { program := "ytokdpnpldoaepaa", sum := "da94a9ef3e63131e966a81329a9daccadcecb5f23a246d38c0ed280c78964b2b", func := "decoupage/decoupagelaw16.HangSolves", spec := "hangSolves", unfollowed := true, recurses := true, apart := false }
def HangSolvesSaid : Prop := hangSolvesRow.holds Try.pinned (OpenSpec.ofChange hangSolvesSpec)

/-- ITS FALSE NEIGHBOUR: 'it returns false'. Refute it at one input. -/
def hangSolvesWrong : ChangeSpec := { name := "hangSolves", fn := fun _ => fun
  | [d] => { results := [.lit (.bool false)], args := [d] }
  | _ => none }
def HangSolvesWrongFalsely : Prop := hangSolvesRow.holds Try.pinned (OpenSpec.ofChange hangSolvesWrong)

/-- 'decoupagelaw16.HangSums': WHATEVER THE INPUT: true; the input reads as it did. -/
def hangSumsSpec : ChangeSpec := { name := "hangSums", fn := fun _ => fun
  | [d] => { results := [.lit (.bool true)], args := [d] }
  | _ => none }
def hangSumsRow : OpenClaim := { program := "ytokdpnpldoaepaa", sum := "da94a9ef3e63131e966a81329a9daccadcecb5f23a246d38c0ed280c78964b2b", func := "decoupage/decoupagelaw16.HangSums", spec := "hangSums", unfollowed := true, recurses := true, apart := false }
def HangSumsSaid : Prop := hangSumsRow.holds Try.pinned (OpenSpec.ofChange hangSumsSpec)

/-- ITS FALSE NEIGHBOUR: 'it returns false'. Refute it at one input. -/
def hangSumsWrong : ChangeSpec := { name := "hangSums", fn := fun _ => fun
  | [d] => { results := [.lit (.bool false)], args := [d] }
  | _ => none }
def HangSumsWrongFalsely : Prop := hangSumsRow.holds Try.pinned (OpenSpec.ofChange hangSumsWrong)

/-- 'decoupagelaw16.HangKeeps': WHATEVER THE INPUT: true; the input reads as it did. -/
def hangKeepsSpec : ChangeSpec := { name := "hangKeeps", fn := fun _ => fun
  | [d] => { results := [.lit (.bool true)], args := [d] }
  | _ => none }
def hangKeepsRow : OpenClaim := { program := "ytokdpnpldoaepaa", sum := "da94a9ef3e63131e966a81329a9daccadcecb5f23a246d38c0ed280c78964b2b", func := "decoupage/decoupagelaw16.HangKeeps", spec := "hangKeeps", unfollowed := true, recurses := true, apart := false }
def HangKeepsSaid : Prop := hangKeepsRow.holds Try.pinned (OpenSpec.ofChange hangKeepsSpec)

/-- ITS FALSE NEIGHBOUR: 'it returns false'. Refute it at one input. -/
def hangKeepsWrong : ChangeSpec := { name := "hangKeeps", fn := fun _ => fun
  | [d] => { results := [.lit (.bool false)], args := [d] }
  | _ => none }
def HangKeepsWrongFalsely : Prop := hangKeepsRow.holds Try.pinned (OpenSpec.ofChange hangKeepsWrong)

/-- 'decoupagelaw16.HangOnly': WHATEVER THE INPUT: true; the input reads as it did. -/
def hangOnlySpec : ChangeSpec := { name := "hangOnly", fn := fun _ => fun
  | [d1, d2] => { results := [.lit (.bool true)], args := [d1, d2] }
  | _ => none }
def hangOnlyRow : OpenClaim := { program := "ytokdpnpldoaepaa", sum := "da94a9ef3e63131e966a81329a9daccadcecb5f23a246d38c0ed280c78964b2b", func := "decoupage/decoupagelaw16.HangOnly", spec := "hangOnly", unfollowed := true, recurses := true, apart := false }
def HangOnlySaid : Prop := hangOnlyRow.holds Try.pinned (OpenSpec.ofChange hangOnlySpec)

/-- ITS FALSE NEIGHBOUR: 'it returns false'. Refute it at one input. -/
def hangOnlyWrong : ChangeSpec := { name := "hangOnly", fn := fun _ => fun
  | [d1, d2] => { results := [.lit (.bool false)], args := [d1, d2] }
  | _ => none }
def HangOnlyWrongFalsely : Prop := hangOnlyRow.holds Try.pinned (OpenSpec.ofChange hangOnlyWrong)

/- THE SECOND FORM. 'bulk': how many values and letters a reading holds, each counted each time it is reached (what is shared counts as often as it is met; a slice's spare places count too). A statement '..UptoSaid' is the law's where the arguments, and the package variables that the reading takes, are together of bulk at most 1048576: NARROWER than '..Said'. Prove '..Said' where nothing that the law and all that it calls make is longer than what came in: it says more and counts as full. Else prove '..UptoSaid'. A law counts once. -/
mutual
def uptoBulk {H : Type} : DataW H → Nat
  | .lit (.string bytes) => bytes.length + 1
  | .lit _ => 1
  | .nil => 1
  | .ptr d => uptoBulk d + 1
  | .slice elems spare => uptoBulkAll elems + uptoBulkAll spare + 1
  | .agg parts => uptoBulkAll parts + 1
  | .iface _ d => uptoBulk d + 1
  | .map entries => uptoBulkEntries entries + 1
  | .held _ => 1
def uptoBulkAll {H : Type} : List (DataW H) → Nat
  | [] => 0
  | d :: r => uptoBulk d + uptoBulkAll r
def uptoBulkEntries {H : Type} : List (Lit × DataW H) → Nat
  | [] => 0
  | x :: r => uptoBulkEntry x + uptoBulkEntries r
def uptoBulkEntry {H : Type} : Lit × DataW H → Nat
  | (.string bytes, d) => bytes.length + uptoBulk d + 1
  | (_, d) => uptoBulk d + 1
 end
def uptoSmall : (H : Type) → List (DataW H) → Bool := fun _ ds => decide (uptoBulkAll ds ≤ 1048576)
def OpenSpec.upto (s : _root_.Go.ChangeSpec) : _root_.Go.OpenSpec := { _root_.Go.OpenSpec.ofChange s with cond := some uptoSmall }

/-- 'decoupagelaw13.AcrossSolves', WHERE WHAT IT READS IS OF BULK AT MOST 1048576: true; the input reads as it did. -/
def acrossSolvesUptoRow : OpenClaim := { program := "ytokdpnpldoaepaa", sum := "da94a9ef3e63131e966a81329a9daccadcecb5f23a246d38c0ed280c78964b2b", func := "decoupage/decoupagelaw13.AcrossSolves", spec := "acrossSolves", unfollowed := true, recurses := true, apart := false, narrowed := true }
def AcrossSolvesUptoSaid : Prop := acrossSolvesUptoRow.holds Try.pinned (OpenSpec.upto acrossSolvesSpec)

/-- 'decoupagelaw13.AcrossSums', WHERE WHAT IT READS IS OF BULK AT MOST 1048576: true; the input reads as it did. -/
def acrossSumsUptoRow : OpenClaim := { program := "ytokdpnpldoaepaa", sum := "da94a9ef3e63131e966a81329a9daccadcecb5f23a246d38c0ed280c78964b2b", func := "decoupage/decoupagelaw13.AcrossSums", spec := "acrossSums", unfollowed := true, recurses := true, apart := false, narrowed := true }
def AcrossSumsUptoSaid : Prop := acrossSumsUptoRow.holds Try.pinned (OpenSpec.upto acrossSumsSpec)

/-- 'decoupagelaw13.AcrossKeeps', WHERE WHAT IT READS IS OF BULK AT MOST 1048576: true; the input reads as it did. -/
def acrossKeepsUptoRow : OpenClaim := { program := "ytokdpnpldoaepaa", sum := "da94a9ef3e63131e966a81329a9daccadcecb5f23a246d38c0ed280c78964b2b", func := "decoupage/decoupagelaw13.AcrossKeeps", spec := "acrossKeeps", unfollowed := true, recurses := true, apart := false, narrowed := true }
def AcrossKeepsUptoSaid : Prop := acrossKeepsUptoRow.holds Try.pinned (OpenSpec.upto acrossKeepsSpec)

/-- 'decoupagelaw17.DropSolves', WHERE WHAT IT READS IS OF BULK AT MOST 1048576: true; the input reads as it did. -/
def dropSolvesUptoRow : OpenClaim := { program := "ytokdpnpldoaepaa", sum := "da94a9ef3e63131e966a81329a9daccadcecb5f23a246d38c0ed280c78964b2b", func := "decoupage/decoupagelaw17.DropSolves", spec := "dropSolves", unfollowed := true, recurses := true, apart := false, narrowed := true }
def DropSolvesUptoSaid : Prop := dropSolvesUptoRow.holds Try.pinned (OpenSpec.upto dropSolvesSpec)

/-- 'decoupagelaw17.DropSums', WHERE WHAT IT READS IS OF BULK AT MOST 1048576: true; the input reads as it did. -/
def dropSumsUptoRow : OpenClaim := { program := "ytokdpnpldoaepaa", sum := "da94a9ef3e63131e966a81329a9daccadcecb5f23a246d38c0ed280c78964b2b", func := "decoupage/decoupagelaw17.DropSums", spec := "dropSums", unfollowed := true, recurses := true, apart := false, narrowed := true }
def DropSumsUptoSaid : Prop := dropSumsUptoRow.holds Try.pinned (OpenSpec.upto dropSumsSpec)

/-- 'decoupagelaw17.DropKnown', WHERE WHAT IT READS IS OF BULK AT MOST 1048576: true; the input reads as it did. -/
def dropKnownUptoRow : OpenClaim := { program := "ytokdpnpldoaepaa", sum := "da94a9ef3e63131e966a81329a9daccadcecb5f23a246d38c0ed280c78964b2b", func := "decoupage/decoupagelaw17.DropKnown", spec := "dropKnown", unfollowed := true, recurses := true, apart := false, narrowed := true }
def DropKnownUptoSaid : Prop := dropKnownUptoRow.holds Try.pinned (OpenSpec.upto dropKnownSpec)

/-- 'decoupagelaw17.DropStatic', WHERE WHAT IT READS IS OF BULK AT MOST 1048576: true; the input reads as it did. -/
def dropStaticUptoRow : OpenClaim := { program := "ytokdpnpldoaepaa", sum := "da94a9ef3e63131e966a81329a9daccadcecb5f23a246d38c0ed280c78964b2b", func := "decoupage/decoupagelaw17.DropStatic", spec := "dropStatic", unfollowed := true, recurses := true, apart := false, narrowed := true }
def DropStaticUptoSaid : Prop := dropStaticUptoRow.holds Try.pinned (OpenSpec.upto dropStaticSpec)

/-- 'decoupagelaw16.HangSolves', WHERE WHAT IT READS IS OF BULK AT MOST 1048576: true; the input reads as it did. -/
def hangSolvesUptoRow : OpenClaim := { program := "ytokdpnpldoaepaa", sum := "da94a9ef3e63131e966a81329a9daccadcecb5f23a246d38c0ed280c78964b2b", func := "decoupage/decoupagelaw16.HangSolves", spec := "hangSolves", unfollowed := true, recurses := true, apart := false, narrowed := true }
def HangSolvesUptoSaid : Prop := hangSolvesUptoRow.holds Try.pinned (OpenSpec.upto hangSolvesSpec)

/-- 'decoupagelaw16.HangSums', WHERE WHAT IT READS IS OF BULK AT MOST 1048576: true; the input reads as it did. -/
def hangSumsUptoRow : OpenClaim := { program := "ytokdpnpldoaepaa", sum := "da94a9ef3e63131e966a81329a9daccadcecb5f23a246d38c0ed280c78964b2b", func := "decoupage/decoupagelaw16.HangSums", spec := "hangSums", unfollowed := true, recurses := true, apart := false, narrowed := true }
def HangSumsUptoSaid : Prop := hangSumsUptoRow.holds Try.pinned (OpenSpec.upto hangSumsSpec)

/-- 'decoupagelaw16.HangKeeps', WHERE WHAT IT READS IS OF BULK AT MOST 1048576: true; the input reads as it did. -/
def hangKeepsUptoRow : OpenClaim := { program := "ytokdpnpldoaepaa", sum := "da94a9ef3e63131e966a81329a9daccadcecb5f23a246d38c0ed280c78964b2b", func := "decoupage/decoupagelaw16.HangKeeps", spec := "hangKeeps", unfollowed := true, recurses := true, apart := false, narrowed := true }
def HangKeepsUptoSaid : Prop := hangKeepsUptoRow.holds Try.pinned (OpenSpec.upto hangKeepsSpec)

/-- 'decoupagelaw16.HangOnly', WHERE WHAT IT READS IS OF BULK AT MOST 1048576: true; the input reads as it did. -/
def hangOnlyUptoRow : OpenClaim := { program := "ytokdpnpldoaepaa", sum := "da94a9ef3e63131e966a81329a9daccadcecb5f23a246d38c0ed280c78964b2b", func := "decoupage/decoupagelaw16.HangOnly", spec := "hangOnly", unfollowed := true, recurses := true, apart := false, narrowed := true }
def HangOnlyUptoSaid : Prop := hangOnlyUptoRow.holds Try.pinned (OpenSpec.upto hangOnlySpec)

end Rows
end Go.Proofs.Ytokdpnpldoaepaa
