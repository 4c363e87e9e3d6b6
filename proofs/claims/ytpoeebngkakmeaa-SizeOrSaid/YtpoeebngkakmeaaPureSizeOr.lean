/- What is proved: Or gives the known size, or the other number. Conditions: none. -/
import Derived.Test.YtpoeebngkakmeaaPSizeOrx
import Derived.Test.YtpoeebngkakmeaaOpens
namespace Go.Proofs.Ytpoeebngkakmeaa.Pure
open Go.RowKit Go.Proofs.Ytpoeebngkakmeaa.PSizeOr Go.Proofs.YtpoeebngkakmeaaW.PrintWords Go.Proofs.YtpoeebngkakmeaaW.PrintLast
set_option linter.unusedSimpArgs false
set_option linter.unusedVariables false
open Go.Proofs.Ytpoeebngkakmeaa.Opens

theorem awake_ok (k : Nat) (hk : 8 ≤ k) : decoupagelaw09_awake.f k = some true :=
  at_rounds (g := fun k => decoupagelaw09_awake.f k) (fun k => decoupagelaw09_awake.mono k) hk (by decide +kernel)
structure S23 where
  f0 : Bool
  f1 : Int
def z23 : S23 := ⟨false, 0⟩
def k23 : Kd S23 := Kd.iso (Kd.pair Kd.bool (Kd.int .i64)) (fun x : S23 => (x.f0, x.f1))
theorem k23_open {w : World} {x : S23} {cs : List Value} (h : k23.K w x cs) : cs = [.bool x.f0, .int .i64 x.f1] := by
  obtain ⟨c0, r0, rfl, h0, g0⟩ := h
  have e0 : c0 = [.bool x.f0] := h0
  subst e0
  have e1 : r0 = [.int .i64 x.f1] := g0
  subst e1
  rfl
/-- Its numbers are whole numbers of their kinds. -/
def Q23 (x : S23) : Prop := True ∧ I64 x.f1
theorem SizeOr : ∀ (a0 : S23) (a1 : Int), Q23 a0 → I64 a1 → ∃ k, decoupagelaw09_SizeOr.f k a0.f0 a0.f1 a1 = some true := by
  intro a n _ _
  refine ⟨8, ?_⟩
  have e : decoupageref09_Or.f a.f0 a.f1 n = size_Or.f a.f0 a.f1 n := rfl
  unfold decoupagelaw09_SizeOr.f
  rw [awake_ok 8 (by omega), e]
  unfold size_Or.f
  cases a.f0 <;> simp

end Go.Proofs.Ytpoeebngkakmeaa.Pure
