/- What is proved: contracts of the document's text of the layer drop. Conditions: none but those in each statement. -/
import Derived.Test.YtokdpnpldoaepaaDrC
namespace Go.Proofs.Ytokdpnpldoaepaa.Dr
open Go Go.RowKit Go.Proofs.Ytokdpnpldoaepaa.X Go.Proofs.Ytokdpnpldoaepaa.Ac
open Go.Proofs.Ytokdpnpldoaepaa.Hg (O5 restN ok5 z5 solveB_is Fit OFit ok5_fit rest_eq F_five)
set_option linter.unusedVariables false
set_option linter.unusedSimpArgs false
def addN (o : O5) (r : Int) : Nat → O5
  | 0 => ⟨w6 (o.l + r), o.p, o.w, o.q, o.r⟩
  | 1 => ⟨o.l, w6 (o.p + r), o.w, o.q, o.r⟩
  | 2 => ⟨o.l, o.p, w6 (o.w + r), o.q, o.r⟩
  | 3 => ⟨o.l, o.p, o.w, w6 (o.q + r), o.r⟩
  | _ => ⟨o.l, o.p, o.w, o.q, w6 (o.r + r)⟩
def DIn.plain (i : DIn) (hA : Bool) : Bool := !i.tA && (!hA && !i.bA)
def DIn.nums (i : DIn) (hA : Bool) (hN : Int) : O5 :=
  ⟨bif i.tA && i.bA then i.stat else i.tN, bif i.plain hA then i.mN else orV i.mA i.mN 0, bif hA && (i.tA || i.bA) then i.want else hN, bif i.plain hA then i.qN else orV i.qA i.qN 0, i.bN⟩
def DIn.last (i : DIn) (hA : Bool) : Nat :=
  bif i.bA then 4 else bif i.plain hA && i.qA then 3 else bif hA && !(i.tA || i.bA) then 2 else bif i.plain hA && i.mA then 1 else bif i.tA then 0 else 4
def DIn.refFor (i : DIn) (hA : Bool) (hN : Int) : O5 :=
  bif i.plain hA && (i.mA && i.qA) then addN ⟨(i.nums hA hN).l, refHalf (i.rest (i.nums hA hN)), (i.nums hA hN).w, (i.nums hA hN).q, (i.nums hA hN).r⟩ (w6 (i.rest (i.nums hA hN) - refHalf (i.rest (i.nums hA hN)))) 3
  else addN (i.nums hA hN) (i.rest (i.nums hA hN)) (i.last hA)
def fin5R (o : O5) : Option Out := bif !fitsB o.l then some (MV.tup [O5.mv z5, B false], ([] : Mem)) else bif !fitsB o.p then some (MV.tup [O5.mv z5, B false], []) else bif !fitsB o.w then some (MV.tup [O5.mv z5, B false], []) else bif !fitsB o.q then some (MV.tup [O5.mv z5, B false], []) else bif !fitsB o.r then some (MV.tup [O5.mv z5, B false], []) else some (MV.tup [O5.mv o, B true], [])
set_option maxRecDepth 100000 in
set_option maxHeartbeats 4000000 in
theorem xFor (i : DIn) (sA : Bool) (sN : Int) : xfun Try.prog (EX Try.prog) D1 8 39 [i.mv, .agg [B sA, I sN]] [] fin = fin5R (i.refFor sA sN) := by
  obtain ⟨base, tA, tN, mA, mN, hA, hN, qA, qN, bA, bN, around, want, stat, least, most⟩ := i
  cases tA <;> cases sA <;> cases bA
  · cases mA <;> cases qA <;> (as_aux_lemma => kernel_rfl)
  all_goals (as_aux_lemma => kernel_rfl)
def F_For : List MV → Option MV
  | [.agg [.val (.int .i64 base), .val (.bool tA), .val (.int .i64 tN), .val (.bool mA), .val (.int .i64 mN), .val (.bool hA), .val (.int .i64 hN), .val (.bool qA), .val (.int .i64 qN), .val (.bool bA), .val (.int .i64 bN), .val (.int .i64 around), .val (.int .i64 want), .val (.int .i64 stat), .val (.int .i64 least), .val (.int .i64 most)], .agg [.val (.bool sA), .val (.int .i64 sN)]] => some (.tup [(bif ok5 (DIn.refFor ⟨base, tA, tN, mA, mN, hA, hN, qA, qN, bA, bN, around, want, stat, least, most⟩ sA sN) then DIn.refFor ⟨base, tA, tN, mA, mN, hA, hN, qA, qN, bA, bN, around, want, stat, least, most⟩ sA sN else z5).mv, B (ok5 (DIn.refFor ⟨base, tA, tN, mA, mN, hA, hN, qA, qN, bA, bN, around, want, stat, least, most⟩ sA sN))])
  | _ => none
theorem qFor : QOk Try.prog 39 (toQ F_For) := by
  refine Q_of_x (EX_ok _) D1_ok mixed (n := 8) (fun args v h => ?_)
  unfold F_For at h
  split at h
  · rename_i base tA tN mA mN hA hN qA qN bA bN around want stat least most sA sN
    injection h with h; subst h
    refine ⟨⟨_, rfl⟩, ⟨_, rfl⟩, (xFor ⟨base, tA, tN, mA, mN, hA, hN, qA, qN, bA, bN, around, want, stat, least, most⟩ sA sN).trans ?_⟩
    generalize DIn.refFor ⟨base, tA, tN, mA, mN, hA, hN, qA, qN, bA, bN, around, want, stat, least, most⟩ sA sN = o
    unfold fin5R ok5
    cases fitsB o.l <;> cases fitsB o.p <;> cases fitsB o.w <;> cases fitsB o.q <;> cases fitsB o.r <;> rfl
  · cases h
noncomputable def R1 : Ctx := addQ D1 39 F_For
theorem R1_ok : COk Try.prog R1 := addQ_ok D1_ok qFor (fnOk_of Try.func39 (by kernel_rfl) (by kernel_rfl))
end Go.Proofs.Ytokdpnpldoaepaa.Dr
