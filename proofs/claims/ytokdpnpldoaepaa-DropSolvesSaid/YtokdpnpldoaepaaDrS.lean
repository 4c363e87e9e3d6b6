/- What is proved: the document's text of the layer drop answers as the program's. Conditions: none but those in each statement. -/
import Derived.Test.YtokdpnpldoaepaaDrQ0
import Derived.Test.YtokdpnpldoaepaaDrQ1
import Derived.Test.YtokdpnpldoaepaaDrQ2
import Derived.Test.YtokdpnpldoaepaaDrQ3
namespace Go.Proofs.Ytokdpnpldoaepaa.Dr
open Go Go.RowKit Go.Proofs.Ytokdpnpldoaepaa.X Go.Proofs.Ytokdpnpldoaepaa.Ac
open Go.Proofs.Ytokdpnpldoaepaa.Hg (O5 restN ok5 z5 solveB_is Fit OFit ok5_fit rest_eq F_five)
set_option linter.unusedVariables false
set_option linter.unusedSimpArgs false
theorem x20 (i : DIn) : xfun Try.prog (EX Try.prog) R1 11 20 [i.mv] [] fin = i.refSolveT := by
  obtain ⟨base, tA, tN, mA, mN, hA, hN, qA, qN, bA, bN, around, want, stat, least, most⟩ := i
  cases tA <;> cases mA
  · exact x20_0 ..
  · exact x20_1 ..
  · exact x20_2 ..
  · exact x20_3 ..
theorem ref_sol (i : DIn) (sA : Bool) (sN : Int) : i.zeroed.refFor sA (orV sA sN 0) = i.sol sA sN := by
  have hn : i.zeroed.nums sA (orV sA sN 0) = i.op2 (i.op1 sA (i.start sA sN)) := by
    obtain ⟨base, tA, tN, mA, mN, hA, hN, qA, qN, bA, bN, around, want, stat, least, most⟩ := i
    cases tA <;> cases mA <;> cases sA <;> cases qA <;> cases bA <;> rfl
  have oL : i.tA = true → i.bA = false → (i.op2 (i.op1 sA (i.start sA sN))).l = 0 := by
    obtain ⟨base, tA, tN, mA, mN, hA, hN, qA, qN, bA, bN, around, want, stat, least, most⟩ := i
    cases tA <;> cases sA <;> cases bA <;> intro h1 h2 <;> first | rfl | (simp [DIn.plain] at h1; done) | (simp [DIn.plain] at h2; done)
  have oP : i.plain sA = true → i.mA = true → (i.op2 (i.op1 sA (i.start sA sN))).p = 0 := by
    obtain ⟨base, tA, tN, mA, mN, hA, hN, qA, qN, bA, bN, around, want, stat, least, most⟩ := i
    cases tA <;> cases mA <;> cases sA <;> cases bA <;> intro h1 h2 <;> first | rfl | (simp [DIn.plain] at h1; done) | (simp [DIn.plain] at h2; done)
  have oW : sA = true → i.tA = false → i.bA = false → (i.op2 (i.op1 sA (i.start sA sN))).w = 0 := by
    obtain ⟨base, tA, tN, mA, mN, hA, hN, qA, qN, bA, bN, around, want, stat, least, most⟩ := i
    cases tA <;> cases sA <;> cases bA <;> intro h1 h2 h3 <;> first | rfl | (simp [DIn.plain] at h1; done) | (simp [DIn.plain] at h2; done) | (simp [DIn.plain] at h3; done)
  have oQ : i.plain sA = true → i.qA = true → (i.op2 (i.op1 sA (i.start sA sN))).q = 0 := by
    obtain ⟨base, tA, tN, mA, mN, hA, hN, qA, qN, bA, bN, around, want, stat, least, most⟩ := i
    cases tA <;> cases qA <;> cases sA <;> cases bA <;> intro h1 h2 <;> first | rfl | (simp [DIn.plain] at h1; done) | (simp [DIn.plain] at h2; done)
  have oR : i.bA = true → (i.op2 (i.op1 sA (i.start sA sN))).r = 0 := by
    obtain ⟨base, tA, tN, mA, mN, hA, hN, qA, qN, bA, bN, around, want, stat, least, most⟩ := i
    cases tA <;> cases sA <;> cases bA <;> intro h1 <;> first | rfl | (simp [DIn.plain] at h1; done)
  have hr : ∀ o, i.zeroed.rest o = i.rest o := fun _ => rfl
  have hp : i.zeroed.plain sA = i.plain sA := rfl
  have hl : i.zeroed.last sA = i.last sA := rfl
  have hm : i.zeroed.mA = i.mA := rfl
  have hq : i.zeroed.qA = i.qA := rfl
  unfold DIn.refFor DIn.sol
  rw [hn, hr, hp, hl, hm, hq]
  generalize i.op2 (i.op1 sA (i.start sA sN)) = O at *
  have hI : I64 (i.rest O) := wrap_I64 _
  have f0 : w6 (0 + i.rest O) = i.rest O := by rw [Int.zero_add]; exact w6_id hI.1 hI.2
  have f1 : refHalf (i.rest O) = i.rest O / 2 := refHalf_eq _ hI
  have f2 : w6 (0 + w6 (i.rest O - i.rest O / 2)) = w6 (i.rest O - i.rest O / 2) := by
    rw [Int.zero_add]
    have h := wrap_I64 (i.rest O - i.rest O / 2)
    exact w6_id h.1 h.2
  rw [f1]
  unfold DIn.opn DIn.last
  have hs : i.said O = bif i.mA && i.qA then ⟨O.l, i.rest O / 2, O.w, w6 (i.rest O - i.rest O / 2), O.r⟩ else bif i.mA then ⟨O.l, i.rest O, O.w, O.q, O.r⟩ else bif i.qA then ⟨O.l, O.p, O.w, i.rest O, O.r⟩ else ⟨O.l, O.p, O.w, O.q, w6 (O.r + i.rest O)⟩ := rfl
  rw [hs]
  generalize i.rest O = R at *
  clear hs hn hr hp hl hm hq f1 hI
  unfold DIn.plain at *
  generalize i.tA = a1 at *
  generalize i.mA = a2 at *
  generalize i.qA = a4 at *
  generalize i.bA = a5 at *
  cases a1 <;> cases a2 <;> cases sA <;> cases a4 <;> cases a5 <;> simp_all [addN]
def DIn.refFits (i : DIn) : Bool := fitsB i.base && (fitsB i.around && (fitsB i.want && (fitsB i.stat && ok5 (i.start i.hA i.hN))))
theorem solve_ref (i : DIn) : i.refSolveT = some (.tup [i.solve.1.mv, B i.solve.2], []) := by
  have e1 := ref_sol i i.hA i.hN
  have e2 := ref_sol i false i.most
  have e3 := ref_sol i false i.least
  simp only [orV, cond_false] at e2 e3
  unfold DIn.refSolveT DIn.k16 DIn.k18 DIn.k20 DIn.res
  rw [e1, e2, e3]
  unfold DIn.solve DIn.fits solveB
  generalize i.sol i.hA i.hN = o1
  generalize i.sol false i.most = o2
  generalize i.sol false i.least = o3
  have hs : ok5 (i.start i.hA i.hN) = (fitsB (orV i.tA i.tN 0) && (fitsB (orV i.mA i.mN 0) && (fitsB (orV i.hA i.hN 0) && (fitsB (orV i.qA i.qN 0) && fitsB (orV i.bA i.bN 0))))) := rfl
  rw [hs]
  simp only [chain]
  generalize fitsB i.base = a1
  generalize fitsB i.around = a2
  generalize fitsB i.want = a3
  generalize fitsB i.stat = a4
  generalize fitsB (orV i.tA i.tN 0) = a6
  generalize fitsB (orV i.mA i.mN 0) = a7
  generalize fitsB (orV i.hA i.hN 0) = a8
  generalize fitsB (orV i.qA i.qN 0) = a9
  generalize fitsB (orV i.bA i.bN 0) = a10
  cases a1 <;> simp only [noT, cond_true, cond_false, Bool.not_true, Bool.not_false, Bool.true_and, Bool.false_and, Bool.and_false]
  cases a2 <;> simp only [noT, cond_true, cond_false, Bool.not_true, Bool.not_false, Bool.true_and, Bool.false_and, Bool.and_false]
  cases a3 <;> simp only [noT, cond_true, cond_false, Bool.not_true, Bool.not_false, Bool.true_and, Bool.false_and, Bool.and_false]
  cases a4 <;> simp only [noT, cond_true, cond_false, Bool.not_true, Bool.not_false, Bool.true_and, Bool.false_and, Bool.and_false]
  cases a6 <;> simp only [noT, cond_true, cond_false, Bool.not_true, Bool.not_false, Bool.true_and, Bool.false_and, Bool.and_false]
  cases a7 <;> simp only [noT, cond_true, cond_false, Bool.not_true, Bool.not_false, Bool.true_and, Bool.false_and, Bool.and_false]
  cases a8 <;> simp only [noT, cond_true, cond_false, Bool.not_true, Bool.not_false, Bool.true_and, Bool.false_and, Bool.and_false]
  cases a9 <;> simp only [noT, cond_true, cond_false, Bool.not_true, Bool.not_false, Bool.true_and, Bool.false_and, Bool.and_false]
  cases a10 <;> simp only [noT, cond_true, cond_false, Bool.not_true, Bool.not_false, Bool.true_and, Bool.false_and, Bool.and_false]
  cases k1 : ok5 o1 <;> simp only [k1, cond_true, cond_false, Bool.not_true, Bool.not_false]
  by_cases h1 : o1.w > i.most <;> simp only [h1, decide_true, decide_false, cond_true, cond_false]
  · cases k2 : ok5 o2 <;> simp only [k2, cond_true, cond_false, Bool.not_true, Bool.not_false]
    by_cases h2 : o2.w < i.least <;> simp only [h2, decide_true, decide_false, cond_true, cond_false]
    cases k3 : ok5 o3 <;> simp only [k3, cond_true, cond_false, Bool.not_true, Bool.not_false]
  · by_cases h2 : o1.w < i.least <;> simp only [h2, decide_true, decide_false, cond_true, cond_false]
    cases k3 : ok5 o3 <;> simp only [k3, cond_true, cond_false, Bool.not_true, Bool.not_false]
theorem q20 : QOk Try.prog 20 (toQ F_19) := by
  refine Q_of_x (EX_ok _) R1_ok mixed (n := 11) (fun args v h => ?_)
  unfold F_19 at h
  split at h
  · rename_i base tA tN mA mN hA hN qA qN bA bN around want stat least most
    injection h with h; subst h
    exact ⟨⟨_, rfl⟩, ⟨_, rfl⟩, (x20 ⟨base, tA, tN, mA, mN, hA, hN, qA, qN, bA, bN, around, want, stat, least, most⟩).trans (solve_ref ⟨base, tA, tN, mA, mN, hA, hN, qA, qN, bA, bN, around, want, stat, least, most⟩)⟩
  · cases h
noncomputable def L2 : Ctx := addQ L1 20 F_19
theorem L2_ok : COk Try.prog L2 := addQ_ok L1_ok q20 (fnOk_of Try.func20 (by kernel_rfl) (by kernel_rfl))
set_option maxRecDepth 100000 in
theorem x6 (i : DIn) : xfun Try.prog (EX Try.prog) L2 6 6 [i.mv] [] fin =
    bif O5.l (Prod.fst (DIn.solve i)) == O5.l (Prod.fst (DIn.solve { base := DIn.base i, tA := DIn.tA i, tN := DIn.tN i, mA := DIn.mA i, mN := DIn.mN i, hA := DIn.hA i, hN := DIn.hN i, qA := DIn.qA i, qN := DIn.qN i, bA := DIn.bA i, bN := DIn.bN i, around := DIn.around i, want := DIn.want i, stat := DIn.stat i, least := DIn.least i, most := DIn.most i })) && (O5.p (Prod.fst (DIn.solve i)) == O5.p (Prod.fst (DIn.solve { base := DIn.base i, tA := DIn.tA i, tN := DIn.tN i, mA := DIn.mA i, mN := DIn.mN i, hA := DIn.hA i, hN := DIn.hN i, qA := DIn.qA i, qN := DIn.qN i, bA := DIn.bA i, bN := DIn.bN i, around := DIn.around i, want := DIn.want i, stat := DIn.stat i, least := DIn.least i, most := DIn.most i })) && (O5.w (Prod.fst (DIn.solve i)) == O5.w (Prod.fst (DIn.solve { base := DIn.base i, tA := DIn.tA i, tN := DIn.tN i, mA := DIn.mA i, mN := DIn.mN i, hA := DIn.hA i, hN := DIn.hN i, qA := DIn.qA i, qN := DIn.qN i, bA := DIn.bA i, bN := DIn.bN i, around := DIn.around i, want := DIn.want i, stat := DIn.stat i, least := DIn.least i, most := DIn.most i })) && (O5.q (Prod.fst (DIn.solve i)) == O5.q (Prod.fst (DIn.solve { base := DIn.base i, tA := DIn.tA i, tN := DIn.tN i, mA := DIn.mA i, mN := DIn.mN i, hA := DIn.hA i, hN := DIn.hN i, qA := DIn.qA i, qN := DIn.qN i, bA := DIn.bA i, bN := DIn.bN i, around := DIn.around i, want := DIn.want i, stat := DIn.stat i, least := DIn.least i, most := DIn.most i })) && (O5.r (Prod.fst (DIn.solve i)) == O5.r (Prod.fst (DIn.solve { base := DIn.base i, tA := DIn.tA i, tN := DIn.tN i, mA := DIn.mA i, mN := DIn.mN i, hA := DIn.hA i, hN := DIn.hN i, qA := DIn.qA i, qN := DIn.qN i, bA := DIn.bA i, bN := DIn.bN i, around := DIn.around i, want := DIn.want i, stat := DIn.stat i, least := DIn.least i, most := DIn.most i })) && true)))) then some (MV.val (Value.bool (Prod.snd (DIn.solve i) == Prod.snd (DIn.solve { base := DIn.base i, tA := DIn.tA i, tN := DIn.tN i, mA := DIn.mA i, mN := DIn.mN i, hA := DIn.hA i, hN := DIn.hN i, qA := DIn.qA i, qN := DIn.qN i, bA := DIn.bA i, bN := DIn.bN i, around := DIn.around i, want := DIn.want i, stat := DIn.stat i, least := DIn.least i, most := DIn.most i }))), []) else some (MV.val (Value.bool false), []) := by kernel_rfl
theorem DropSolves_x (i : DIn) : xfun Try.prog (EX Try.prog) L2 6 6 [i.mv] [] fin = some (B true, []) := by
  refine (x6 i).trans ?_
  simp only [beq_self_eq_true, Bool.and_true, Bool.not_true, cond_false, cond_true]
end Go.Proofs.Ytokdpnpldoaepaa.Dr
