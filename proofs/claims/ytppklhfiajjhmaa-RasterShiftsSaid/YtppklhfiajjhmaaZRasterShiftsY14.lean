/- What is proved: parts of a code by their paths; lists of temporaries of which some are of no account. Conditions: none but those in each statement. -/
import Derived.Test.YtppklhfiajjhmaaZRasterShiftsY13
namespace Go.Proofs.Ytppklhfiajjhmaa.Y
open Go Go.RowKit
set_option linter.unusedVariables false
set_option linter.unusedSimpArgs false
/-- A part of a code: 0 the first or the inner one, 1 the second. -/
def cut : Code → List Nat → Code
  | c, [] => c
  | .seq a b, n :: p => match n with
    | 0 => cut a p
    | _ => cut b p
  | .cond _ a b, n :: p => match n with
    | 0 => cut a p
    | _ => cut b p
  | .block _ c, _ :: p => cut c p
  | .loop c, _ :: p => cut c p
  | c, _ :: _ => c
def bodyOf (f : Func) : Code := f.body.getD .skip
section
variable {P : Program} {E : Eqs} {C : Ctx} {X : Env}
theorem XR.cast {c c' : Code} {tm : List MV} {m : Mem} {S : XE → List MV → Mem → Prop} (e : c = c') (h : XR P X c' tm m S) : XR P X c tm m S := by rw [e]; exact h
/-- One part behind the other: the first comes to one state. -/
theorem XR.seq_x (hE : EqOk P E) (hC : COk P C) (hm : P.follows .mixedOrders = true) {n : Nat} {a b : Code} {tm tm' : List MV} {m m' : Mem} {S : XE → List MV → Mem → Prop}
    (h : ∀ k : KE, xcode P E C n a tm m k = k .normal tm' m') (hb : XR P C.env b tm' m' S) : XR P C.env (.seq a b) tm m S :=
  XR.seq (XR.of_x hE hC hm h hb)
end
end Go.Proofs.Ytppklhfiajjhmaa.Y
