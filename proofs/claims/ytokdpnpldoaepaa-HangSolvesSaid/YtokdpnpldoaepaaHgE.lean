/- What is proved: of a box that hangs: what is said stays, but for a side, by the direction, and a width beyond its bounds. Conditions: none but those in each statement. -/
import Derived.Test.YtokdpnpldoaepaaHgD
namespace Go.Proofs.Ytokdpnpldoaepaa.Hg
open Go Go.RowKit Go.Proofs.Ytokdpnpldoaepaa.X Go.Proofs.Ytokdpnpldoaepaa.Ac
set_option linter.unusedVariables false
set_option linter.unusedSimpArgs false
abbrev yes : Option Out := some (B true, [])
abbrev no : Option Out := some (B false, [])
def keeps (lA : Bool) (lN : Int) (pA : Bool) (pN : Int) (wA : Bool) (wN : Int) (qA : Bool) (qN : Int) (rA : Bool) (rN : Int) (rtl : Bool) (least most : Int) (o : O5) : Option Out :=
  let k5 := yes
  let k4 := bif rA then k5 else bif o.r == rN then k5 else bif !(!rtl) then no else k5
  let k3 := bif qA then k4 else bif o.q == qN then k4 else no
  let k2 := bif wA then k3 else bif o.w == wN then k3 else bif o.w == least then k3 else bif !(o.w == most) then no else k3
  let k1 := bif pA then k2 else bif o.p == pN then k2 else no
  bif lA then k1 else bif o.l == lN then k1 else bif rtl then k1 else no
set_option maxRecDepth 100000 in
theorem x12 (i : HIn) : xfun Try.prog (EX Try.prog) L1 6 12 [i.mv] [] fin =
    bif decide (i.least > i.most) then yes else bif !(i.solve.2) then yes else keeps i.lA i.lN i.pA i.pN i.wA i.wN i.qA i.qN i.rA i.rN i.rtl i.least i.most i.solve.1 := by kernel_rfl
theorem said_k (i : HIn) (o : O5) : ((i.said o).l = o.l ∨ i.rtl = true) ∧ ((i.said o).p = o.p ∨ i.pA = true) ∧ ((i.said o).q = o.q ∨ i.qA = true) ∧ ((i.said o).r = o.r ∨ i.rtl = false) := by
  unfold HIn.said
  generalize i.rest o = R
  by_cases d : R ≥ 0 <;> simp only [d, decide_true, decide_false] <;> cases i.pA <;> cases i.qA <;> cases i.rtl <;> simp
theorem opn_k (i : HIn) (sA : Bool) (o : O5) : ((i.opn sA o).l = o.l ∨ i.lA = true) ∧ (i.opn sA o).p = o.p ∧ (i.opn sA o).q = o.q ∧ ((i.opn sA o).r = o.r ∨ i.rA = true) := by
  unfold HIn.opn
  generalize i.rest (i.op2 (i.op1 sA o)) = R
  unfold HIn.op2 HIn.op1
  cases sA <;> cases i.lA <;> cases i.rA <;> cases i.turned <;> simp
theorem sol_keeps (i : HIn) (sA : Bool) (sN : Int) : (i.lA || ((i.sol sA sN).l == i.lN || i.rtl)) = true ∧ (i.pA || (i.sol sA sN).p == i.pN) = true ∧ (i.qA || (i.sol sA sN).q == i.qN) = true ∧ (i.rA || ((i.sol sA sN).r == i.rN || !i.rtl)) = true := by
  have s1 : i.lA = false → (i.start sA sN).l = i.lN := fun h => by simp [HIn.start, orV, h]
  have s2 : i.pA = false → (i.start sA sN).p = i.pN := fun h => by simp [HIn.start, orV, h]
  have s3 : i.qA = false → (i.start sA sN).q = i.qN := fun h => by simp [HIn.start, orV, h]
  have s4 : i.rA = false → (i.start sA sN).r = i.rN := fun h => by simp [HIn.start, orV, h]
  unfold HIn.sol
  obtain ⟨a1, a2, a3, a4⟩ := said_k i (i.start sA sN)
  obtain ⟨b1, b2, b3, b4⟩ := opn_k i sA (i.start sA sN)
  cases (sA || (i.lA || i.rA)) <;> simp only [cond_true, cond_false] <;> refine ⟨?_, ?_, ?_, ?_⟩
  · cases h : i.lA with
    | true => rfl
    | false => rcases a1 with a1 | a1 <;> simp [a1, s1 h]
  · cases h : i.pA with
    | true => rfl
    | false => rcases a2 with a2 | a2 <;> simp_all
  · cases h : i.qA with
    | true => rfl
    | false => rcases a3 with a3 | a3 <;> simp_all
  · cases h : i.rA with
    | true => rfl
    | false => rcases a4 with a4 | a4 <;> simp [a4, s4 h]
  · cases h : i.lA with
    | true => rfl
    | false => rcases b1 with b1 | b1 <;> simp_all
  · cases h : i.pA with
    | true => rfl
    | false => simp [b2, s2 h]
  · cases h : i.qA with
    | true => rfl
    | false => simp [b3, s3 h]
  · cases h : i.rA with
    | true => rfl
    | false => rcases b4 with b4 | b4 <;> simp_all
theorem keeps_yes {lA pA wA qA rA rtl : Bool} {lN pN wN qN rN least most : Int} {o : O5} (h1 : (lA || (o.l == lN || rtl)) = true) (h2 : (pA || o.p == pN) = true) (h3 : (wA || (o.w == wN || (o.w == least || o.w == most))) = true) (h4 : (qA || o.q == qN) = true) (h5 : (rA || (o.r == rN || !rtl)) = true) :
    keeps lA lN pA pN wA wN qA qN rA rN rtl least most o = yes := by
  unfold keeps
  generalize (o.l == lN) = a1 at *
  generalize (o.p == pN) = a2 at *
  generalize (o.w == wN) = a3 at *
  generalize (o.w == least) = a4 at *
  generalize (o.w == most) = a5 at *
  generalize (o.q == qN) = a6 at *
  generalize (o.r == rN) = a7 at *
  have e4 : (bif rA then yes else bif a7 then yes else bif !(!rtl) then no else yes) = yes := by
    revert h5; cases rA <;> cases a7 <;> cases rtl <;> simp
  have e3 : (bif qA then yes else bif a6 then yes else no) = yes := by
    revert h4; cases qA <;> cases a6 <;> simp
  have e2 : (bif wA then yes else bif a3 then yes else bif a4 then yes else bif !a5 then no else yes) = yes := by
    revert h3; cases wA <;> cases a3 <;> cases a4 <;> cases a5 <;> simp
  have e1 : (bif pA then yes else bif a2 then yes else no) = yes := by
    revert h2; cases pA <;> cases a2 <;> simp
  have e0 : (bif lA then yes else bif a1 then yes else bif rtl then yes else no) = yes := by
    revert h1; cases lA <;> cases a1 <;> cases rtl <;> simp
  simp only [e4, e3, e2, e1, e0]
theorem HangKeeps_x (i : HIn) : xfun Try.prog (EX Try.prog) L1 6 12 [i.mv] [] fin = some (B true, []) := by
  refine (x12 i).trans ?_
  cases decide (i.least > i.most) with
  | true => rfl
  | false =>
    cases hk : i.solve.2 with
    | false => rfl
    | true =>
      obtain ⟨h, sA, sN, e, ho, hc⟩ := solve_is i hk
      obtain ⟨k1, k2, k3, k4⟩ := sol_keeps i sA sN
      rw [e]
      refine keeps_yes k1 k2 ?_ k3 k4
      rcases hc with ⟨rfl, rfl, _, _⟩ | ⟨rfl, rfl, _⟩ | ⟨rfl, rfl⟩
      · cases hw : i.wA with
        | true => rfl
        | false => simp [sol_w]
      · simp [sol_w]
      · simp [sol_w]
end Go.Proofs.Ytokdpnpldoaepaa.Hg
