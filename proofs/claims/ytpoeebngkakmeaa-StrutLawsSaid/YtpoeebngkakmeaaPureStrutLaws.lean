/- What is proved: Join is commutative, associative and idempotent. Conditions: none. -/
import Derived.Test.YtpoeebngkakmeaaPStrutLawsx
import Derived.Test.YtpoeebngkakmeaaOpens
namespace Go.Proofs.Ytpoeebngkakmeaa.Pure
open Go.RowKit Go.Proofs.Ytpoeebngkakmeaa.PStrutLaws Go.Proofs.YtpoeebngkakmeaaW.PrintWords Go.Proofs.YtpoeebngkakmeaaW.PrintLast
set_option linter.unusedSimpArgs false
set_option linter.unusedVariables false
open Go.Proofs.Ytpoeebngkakmeaa.Opens

theorem awake_ok (k : Nat) (hk : 8 ≤ k) : decoupagelaw11_awake.f k = some true :=
  at_rounds (g := fun k => decoupagelaw11_awake.f k) (fun k => decoupagelaw11_awake.mono k) hk (by decide +kernel)
theorem mx_comm (x y : Int) : mx x y = mx y x := by unfold mx; split <;> split <;> omega
theorem mn_comm (x y : Int) : mn x y = mn y x := by unfold mn; split <;> split <;> omega
theorem mx_assoc (x y z : Int) : mx x (mx y z) = mx (mx x y) z := by unfold mx; (repeat' split) <;> omega
theorem mn_assoc (x y z : Int) : mn x (mn y z) = mn (mn x y) z := by unfold mn; (repeat' split) <;> omega
theorem mx_self (x : Int) : mx x x = x := by unfold mx; split <;> rfl
theorem mn_self (x : Int) : mn x x = x := by unfold mn; split <;> rfl

structure S44 where
  f0 : Int
  f1 : Int
def z44 : S44 := ⟨0, 0⟩
def k44 : Kd S44 := Kd.iso (Kd.pair (Kd.int .i64) (Kd.int .i64)) (fun x : S44 => (x.f0, x.f1))
theorem k44_open {w : World} {x : S44} {cs : List Value} (h : k44.K w x cs) : cs = [.int .i64 x.f0, .int .i64 x.f1] := by
  obtain ⟨c0, r0, rfl, h0, g0⟩ := h
  have e0 : c0 = [.int .i64 x.f0] := h0
  subst e0
  have e1 : r0 = [.int .i64 x.f1] := g0
  subst e1
  rfl
/-- Its numbers are whole numbers of their kinds. -/
def Q44 (x : S44) : Prop := I64 x.f0 ∧ I64 x.f1

theorem StrutLaws : ∀ (a0 : S44) (a1 : S44) (a2 : S44), Q44 a0 → Q44 a1 → Q44 a2 → ∃ k, decoupagelaw11_StrutLaws.f k a0.f0 a0.f1 a1.f0 a1.f1 a2.f0 a2.f1 = some true := by
  intro a b c _ _ _
  refine ⟨8, ?_⟩
  unfold decoupagelaw11_StrutLaws.f
  rw [awake_ok 8 (by omega)]
  simp only [Option.bind_some, if_true, strut_Join.f, mx_self, mn_self, beq_self_eq_true, Bool.and_self]
  rw [mx_comm b.f0 a.f0, mn_comm b.f1 a.f1, mx_assoc, mn_assoc]
  simp only [beq_self_eq_true, Bool.and_self, if_true]

end Go.Proofs.Ytpoeebngkakmeaa.Pure
