/- What is proved: the document's text of the layer hang answers as the program's. Conditions: none but those in each statement. -/
import Derived.Test.YtokdpnpldoaepaaHgQ0
import Derived.Test.YtokdpnpldoaepaaHgQ1
import Derived.Test.YtokdpnpldoaepaaHgQ2
import Derived.Test.YtokdpnpldoaepaaHgQ3
namespace Go.Proofs.Ytokdpnpldoaepaa.Hg
open Go Go.RowKit Go.Proofs.Ytokdpnpldoaepaa.X Go.Proofs.Ytokdpnpldoaepaa.Ac
set_option linter.unusedVariables false
set_option linter.unusedSimpArgs false
theorem x26 (i : HIn) : xfun Try.prog (EX Try.prog) R1 12 26 [i.mv] [] fin = i.refSolveT := by
  obtain ⟨base, lA, lN, pA, pN, wA, wN, qA, qN, rA, rN, around, want, stat, behind, rtl, turned, least, most⟩ := i
  cases lA <;> cases pA
  · exact x26_0 ..
  · exact x26_1 ..
  · exact x26_2 ..
  · exact x26_3 ..
theorem ref_sol (i : HIn) (sA : Bool) (sN : Int) : i.zeroed.refFor sA (orV sA sN 0) = i.sol sA sN := by
  have hn : i.zeroed.nums sA (orV sA sN 0) = i.op2 (i.op1 sA (i.start sA sN)) := by
    obtain ⟨base, lA, lN, pA, pN, wA, wN, qA, qN, rA, rN, around, want, stat, behind, rtl, turned, least, most⟩ := i
    cases lA <;> cases pA <;> cases sA <;> cases qA <;> cases rA <;> cases turned <;> rfl
  have oP : i.plain sA = true → i.pA = true → (i.start sA sN).p = 0 := by
    intro h1 h2; simp [HIn.start, orV, h2]
  have oQ : i.plain sA = true → i.qA = true → (i.start sA sN).q = 0 := by
    intro h1 h2; simp [HIn.start, orV, h2]
  have hO : i.plain sA = true → i.op2 (i.op1 sA (i.start sA sN)) = i.start sA sN := by
    obtain ⟨base, lA, lN, pA, pN, wA, wN, qA, qN, rA, rN, around, want, stat, behind, rtl, turned, least, most⟩ := i
    cases lA <;> cases sA <;> cases rA <;> intro h1 <;> first | rfl | (simp [HIn.plain] at h1; done)
  have hr : ∀ o, i.zeroed.rest o = i.rest o := fun _ => rfl
  have hp : i.zeroed.plain sA = i.plain sA := rfl
  have hl : i.zeroed.last sA = i.last sA := rfl
  have h1 : i.zeroed.pA = i.pA := rfl
  have h2 : i.zeroed.qA = i.qA := rfl
  have h3 : i.zeroed.rtl = i.rtl := rfl
  have h4 : ∀ o r, i.zeroed.both o r = i.both o r := fun _ _ => rfl
  unfold HIn.refFor HIn.sol
  rw [hn, hr, hp, hl, h1, h2, h3, h4]
  have hI : I64 (i.rest (i.op2 (i.op1 sA (i.start sA sN)))) := wrap_I64 _
  have f1 := refHalf_eq _ hI
  clear hn hr hp hl h1 h2 h3 h4 hI
  cases hpl : i.plain sA with
  | true =>
    have hc : (sA || (i.lA || i.rA)) = false := by
      revert hpl
      unfold HIn.plain
      cases sA <;> cases i.lA <;> cases i.rA <;> decide
    have hla : i.last sA = bif i.qA then 3 else bif i.pA then 1 else 5 := by
      unfold HIn.last
      rw [hpl]
      revert hpl
      unfold HIn.plain
      cases sA <;> cases i.lA <;> cases i.rA <;> intro h <;> first | rfl | (simp at h; done)
    rw [hO hpl] at f1 ⊢
    rw [hc, hla]
    have oP := oP hpl
    have oQ := oQ hpl
    unfold HIn.said
    simp only [Bool.true_and, cond_false]
    generalize i.start sA sN = O at *
    unfold HIn.both
    rw [f1]
    generalize i.rest O = R at *
    generalize i.pA = a2 at *
    generalize i.qA = a4 at *
    generalize i.rtl = a6 at *
    obtain ⟨l, p, w, q, r⟩ := O
    cases a2 <;> cases a4
    · cases a6 <;> simp [setN]
    · simp [setN]
    · simp [setN]
    · have e1 := oP rfl
      have e2 := oQ rfl
      simp only at e1 e2
      subst e1; subst e2
      by_cases h : R < 0
      · have h' : ¬ R ≥ 0 := by omega
        simp only [h, h', decide_true, decide_false, cond_true, cond_false, Bool.and_true]
      · have h' : R ≥ 0 := by omega
        simp only [h, h', decide_true, decide_false, cond_true, cond_false, Bool.and_true]
  | false =>
    have hc : (sA || (i.lA || i.rA)) = true := by
      revert hpl
      unfold HIn.plain
      cases sA <;> cases i.lA <;> cases i.rA <;> decide
    rw [hc]
    unfold HIn.opn HIn.last
    rw [hpl]
    simp only [Bool.false_and, cond_false, cond_true]
    have hS : i.lA = false → i.rA = false → i.start sA sN = i.op2 (i.op1 sA (i.start sA sN)) := by
      obtain ⟨base, lA, lN, pA, pN, wA, wN, qA, qN, rA, rN, around, want, stat, behind, rtl, turned, least, most⟩ := i
      cases lA <;> cases sA <;> cases rA <;> intro h1 h2 <;> first | rfl | (simp at h1; done) | (simp at h2; done)
    generalize i.op2 (i.op1 sA (i.start sA sN)) = O at *
    generalize i.start sA sN = S0 at *
    generalize i.rest O = R at *
    clear oP oQ hO f1
    revert hc hS
    clear hpl
    generalize i.lA = a1 at *
    generalize i.rA = a5 at *
    generalize i.turned = a6 at *
    cases a1 <;> cases sA <;> cases a5 <;> cases a6 <;> intro hc hS <;> simp_all [setN]
theorem solve_ref (i : HIn) : i.refSolveT = some (.tup [i.solve.1.mv, B i.solve.2], []) := by
  have e1 := ref_sol i i.wA i.wN
  have e2 := ref_sol i false i.most
  have e3 := ref_sol i false i.least
  simp only [orV, cond_false] at e2 e3
  unfold HIn.refSolveT HIn.k16 HIn.k18 HIn.k20 HIn.res
  rw [e1, e2, e3]
  unfold HIn.solve HIn.fits solveB
  generalize i.sol i.wA i.wN = o1
  generalize i.sol false i.most = o2
  generalize i.sol false i.least = o3
  have hs : ok5 (i.start i.wA i.wN) = (fitsB (orV i.lA i.lN 0) && (fitsB (orV i.pA i.pN 0) && (fitsB (orV i.wA i.wN 0) && (fitsB (orV i.qA i.qN 0) && fitsB (orV i.rA i.rN 0))))) := rfl
  rw [hs]
  simp only [chain]
  generalize fitsB i.base = a0
  generalize fitsB i.around = a1
  generalize fitsB i.want = a2
  generalize fitsB i.stat = a3
  generalize fitsB i.behind = a4
  generalize fitsB (orV i.lA i.lN 0) = a5
  generalize fitsB (orV i.pA i.pN 0) = a6
  generalize fitsB (orV i.wA i.wN 0) = a7
  generalize fitsB (orV i.qA i.qN 0) = a8
  generalize fitsB (orV i.rA i.rN 0) = a9
  cases a0 <;> simp only [noT, cond_true, cond_false, Bool.not_true, Bool.not_false, Bool.true_and, Bool.false_and, Bool.and_false]
  cases a1 <;> simp only [noT, cond_true, cond_false, Bool.not_true, Bool.not_false, Bool.true_and, Bool.false_and, Bool.and_false]
  cases a2 <;> simp only [noT, cond_true, cond_false, Bool.not_true, Bool.not_false, Bool.true_and, Bool.false_and, Bool.and_false]
  cases a3 <;> simp only [noT, cond_true, cond_false, Bool.not_true, Bool.not_false, Bool.true_and, Bool.false_and, Bool.and_false]
  cases a4 <;> simp only [noT, cond_true, cond_false, Bool.not_true, Bool.not_false, Bool.true_and, Bool.false_and, Bool.and_false]
  cases a5 <;> simp only [noT, cond_true, cond_false, Bool.not_true, Bool.not_false, Bool.true_and, Bool.false_and, Bool.and_false]
  cases a6 <;> simp only [noT, cond_true, cond_false, Bool.not_true, Bool.not_false, Bool.true_and, Bool.false_and, Bool.and_false]
  cases a7 <;> simp only [noT, cond_true, cond_false, Bool.not_true, Bool.not_false, Bool.true_and, Bool.false_and, Bool.and_false]
  cases a8 <;> simp only [noT, cond_true, cond_false, Bool.not_true, Bool.not_false, Bool.true_and, Bool.false_and, Bool.and_false]
  cases a9 <;> simp only [noT, cond_true, cond_false, Bool.not_true, Bool.not_false, Bool.true_and, Bool.false_and, Bool.and_false]
  cases k1 : ok5 o1 <;> simp only [k1, cond_true, cond_false, Bool.not_true, Bool.not_false]
  by_cases h1 : o1.w > i.most <;> simp only [h1, decide_true, decide_false, cond_true, cond_false]
  · cases k2 : ok5 o2 <;> simp only [k2, cond_true, cond_false, Bool.not_true, Bool.not_false]
    by_cases h2 : o2.w < i.least <;> simp only [h2, decide_true, decide_false, cond_true, cond_false]
    cases k3 : ok5 o3 <;> simp only [k3, cond_true, cond_false, Bool.not_true, Bool.not_false]
  · by_cases h2 : o1.w < i.least <;> simp only [h2, decide_true, decide_false, cond_true, cond_false]
    cases k3 : ok5 o3 <;> simp only [k3, cond_true, cond_false, Bool.not_true, Bool.not_false]
theorem q26 : QOk Try.prog 26 (toQ F_25) := by
  refine Q_of_x (EX_ok _) R1_ok mixed (n := 12) (fun args v h => ?_)
  unfold F_25 at h
  split at h
  · rename_i base lA lN pA pN wA wN qA qN rA rN around want stat behind rtl turned least most
    injection h with h; subst h
    exact ⟨⟨_, rfl⟩, ⟨_, rfl⟩, (x26 ⟨base, lA, lN, pA, pN, wA, wN, qA, qN, rA, rN, around, want, stat, behind, rtl, turned, least, most⟩).trans (solve_ref ⟨base, lA, lN, pA, pN, wA, wN, qA, qN, rA, rN, around, want, stat, behind, rtl, turned, least, most⟩)⟩
  · cases h
noncomputable def L2 : Ctx := addQ L1 26 F_25
theorem L2_ok : COk Try.prog L2 := addQ_ok L1_ok q26 (fnOk_of Try.func26 (by kernel_rfl) (by kernel_rfl))
set_option maxRecDepth 100000 in
theorem x10 (i : HIn) : xfun Try.prog (EX Try.prog) L2 6 10 [i.mv] [] fin =
    bif O5.l (Prod.fst (HIn.solve i)) == O5.l (Prod.fst (HIn.solve i)) && (O5.p (Prod.fst (HIn.solve i)) == O5.p (Prod.fst (HIn.solve i)) && (O5.w (Prod.fst (HIn.solve i)) == O5.w (Prod.fst (HIn.solve i)) && (O5.q (Prod.fst (HIn.solve i)) == O5.q (Prod.fst (HIn.solve i)) && (O5.r (Prod.fst (HIn.solve i)) == O5.r (Prod.fst (HIn.solve i)) && true)))) then some (MV.val (Value.bool (Prod.snd (HIn.solve i) == Prod.snd (HIn.solve i))), []) else some (MV.val (Value.bool false), []) := by kernel_rfl
theorem HangSolves_x (i : HIn) : xfun Try.prog (EX Try.prog) L2 6 10 [i.mv] [] fin = some (B true, []) := by
  refine (x10 i).trans ?_
  simp only [beq_self_eq_true, Bool.and_true, Bool.not_true, cond_false, cond_true]
end Go.Proofs.Ytokdpnpldoaepaa.Hg
