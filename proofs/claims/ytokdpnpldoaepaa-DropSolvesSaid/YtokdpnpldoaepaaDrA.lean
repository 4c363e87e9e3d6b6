/- What is proved: contracts of the functions of the layer drop. Conditions: none but those in each statement. -/
import Derived.Test.YtokdpnpldoaepaaHgC
namespace Go.Proofs.Ytokdpnpldoaepaa.Dr
open Go Go.RowKit Go.Proofs.Ytokdpnpldoaepaa.X Go.Proofs.Ytokdpnpldoaepaa.Ac
open Go.Proofs.Ytokdpnpldoaepaa.Hg (O5 restN ok5 z5 solveB_is Fit OFit ok5_fit rest_eq)
set_option linter.unusedVariables false
set_option linter.unusedSimpArgs false
structure DIn where
  base : Int
  tA : Bool
  tN : Int
  mA : Bool
  mN : Int
  hA : Bool
  hN : Int
  qA : Bool
  qN : Int
  bA : Bool
  bN : Int
  around : Int
  want : Int
  stat : Int
  least : Int
  most : Int
abbrev DIn.mv (i : DIn) : MV := .agg [I i.base, B i.tA, I i.tN, B i.mA, I i.mN, B i.hA, I i.hN, B i.qA, I i.qN, B i.bA, I i.bN, I i.around, I i.want, I i.stat, I i.least, I i.most]
def DIn.start (i : DIn) (hA : Bool) (hN : Int) : O5 := ⟨orV i.tA i.tN 0, orV i.mA i.mN 0, orV hA hN 0, orV i.qA i.qN 0, orV i.bA i.bN 0⟩
def DIn.rest (i : DIn) (o : O5) : Int := restN i.base i.around o
def DIn.said (i : DIn) (o : O5) : O5 :=
  bif i.mA && i.qA then ⟨o.l, i.rest o / 2, o.w, w6 (i.rest o - i.rest o / 2), o.r⟩
  else bif i.mA then ⟨o.l, i.rest o, o.w, o.q, o.r⟩
  else bif i.qA then ⟨o.l, o.p, o.w, i.rest o, o.r⟩
  else ⟨o.l, o.p, o.w, o.q, w6 (o.r + i.rest o)⟩
def known (tA hA bA : Bool) : Bool := bif !hA then true else !tA && !bA
def DIn.op1 (i : DIn) (hA : Bool) (o : O5) : O5 := bif hA && (i.tA || i.bA) then ⟨o.l, o.p, i.want, o.q, o.r⟩ else o
def DIn.op2 (i : DIn) (o : O5) : O5 := bif i.tA && i.bA then ⟨i.stat, o.p, o.w, o.q, o.r⟩ else o
def DIn.opn (i : DIn) (hA : Bool) (o : O5) : O5 :=
  bif !i.tA && !hA && !i.bA then i.said o
  else bif hA && !i.tA && !i.bA then ⟨o.l, o.p, i.rest o, o.q, o.r⟩
  else bif i.tA && !i.bA then ⟨i.rest o, o.p, o.w, o.q, o.r⟩
  else ⟨o.l, o.p, o.w, o.q, i.rest o⟩
def DIn.sol (i : DIn) (hA : Bool) (hN : Int) : O5 := i.opn hA (i.op2 (i.op1 hA (i.start hA hN)))
def F_start : List MV → Option MV
  | [.agg [.val (.int .i64 base), .val (.bool tA), .val (.int .i64 tN), .val (.bool mA), .val (.int .i64 mN), .val (.bool hA), .val (.int .i64 hN), .val (.bool qA), .val (.int .i64 qN), .val (.bool bA), .val (.int .i64 bN), .val (.int .i64 around), .val (.int .i64 want), .val (.int .i64 stat), .val (.int .i64 least), .val (.int .i64 most)], .agg [.val (.bool sA), .val (.int .i64 sN)]] => some (DIn.start ⟨base, tA, tN, mA, mN, hA, hN, qA, qN, bA, bN, around, want, stat, least, most⟩ sA sN).mv
  | _ => none
def F_rest : List MV → Option MV
  | [.agg [.val (.int .i64 base), .val (.bool tA), .val (.int .i64 tN), .val (.bool mA), .val (.int .i64 mN), .val (.bool hA), .val (.int .i64 hN), .val (.bool qA), .val (.int .i64 qN), .val (.bool bA), .val (.int .i64 bN), .val (.int .i64 around), .val (.int .i64 want), .val (.int .i64 stat), .val (.int .i64 least), .val (.int .i64 most)], .agg [.val (.int .i64 a), .val (.int .i64 b), .val (.int .i64 c), .val (.int .i64 d), .val (.int .i64 e)]] => some (I (DIn.rest ⟨base, tA, tN, mA, mN, hA, hN, qA, qN, bA, bN, around, want, stat, least, most⟩ ⟨a, b, c, d, e⟩))
  | _ => none
def F_said : List MV → Option MV
  | [.agg [.val (.int .i64 base), .val (.bool tA), .val (.int .i64 tN), .val (.bool mA), .val (.int .i64 mN), .val (.bool hA), .val (.int .i64 hN), .val (.bool qA), .val (.int .i64 qN), .val (.bool bA), .val (.int .i64 bN), .val (.int .i64 around), .val (.int .i64 want), .val (.int .i64 stat), .val (.int .i64 least), .val (.int .i64 most)], .agg [.val (.int .i64 a), .val (.int .i64 b), .val (.int .i64 c), .val (.int .i64 d), .val (.int .i64 e)]] => some (DIn.said ⟨base, tA, tN, mA, mN, hA, hN, qA, qN, bA, bN, around, want, stat, least, most⟩ ⟨a, b, c, d, e⟩).mv
  | _ => none
def F_known : List MV → Option MV
  | [.agg [.val (.bool tA), .val (.int .i64 _)], .agg [.val (.bool hA), .val (.int .i64 _)], .agg [.val (.bool bA), .val (.int .i64 _)]] => some (B (known tA hA bA))
  | _ => none
set_option maxRecDepth 100000 in
theorem xStart (i : DIn) (sA : Bool) (sN : Int) : xfun Try.prog (EX Try.prog) C1 3 36 [i.mv, .agg [B sA, I sN]] [] fin =
    some (MV.agg [MV.val (Value.int IntKind.i64 (orV (DIn.tA i) (DIn.tN i) 0)), MV.val (Value.int IntKind.i64 (orV (DIn.mA i) (DIn.mN i) 0)), MV.val (Value.int IntKind.i64 (orV sA sN 0)), MV.val (Value.int IntKind.i64 (orV (DIn.qA i) (DIn.qN i) 0)), MV.val (Value.int IntKind.i64 (orV (DIn.bA i) (DIn.bN i) 0))], []) := by kernel_rfl
set_option maxRecDepth 100000 in
theorem xRest (i : DIn) (o : O5) : xfun Try.prog (EX Try.prog) C0 3 50 [i.mv, o.mv] [] fin =
    some (MV.val (Value.int IntKind.i64 (IntKind.wrap IntKind.i64 (IntKind.wrap IntKind.i64 (IntKind.wrap IntKind.i64 (IntKind.wrap IntKind.i64 (IntKind.wrap IntKind.i64 (IntKind.wrap IntKind.i64 (DIn.base i - DIn.around i) - O5.l o) - O5.p o) - O5.w o) - O5.q o) - O5.r o))), []) := by kernel_rfl
set_option maxRecDepth 100000 in
theorem xKnown (tA : Bool) (tN : Int) (hA : Bool) (hN : Int) (bA : Bool) (bN : Int) : xfun Try.prog (EX Try.prog) C0 3 23 [.agg [B tA, I tN], .agg [B hA, I hN], .agg [B bA, I bN]] [] fin =
    bif !hA then some (MV.val (Value.bool true), []) else bif !tA then some (MV.val (Value.bool !bA), []) else some (MV.val (Value.bool false), []) := by kernel_rfl
theorem qStart : QOk Try.prog 36 (toQ F_start) := by
  refine Q_of_x (EX_ok _) C1_ok mixed (n := 3) (fun args v h => ?_)
  unfold F_start at h
  split at h
  · rename_i base tA tN mA mN hA hN qA qN bA bN around want stat least most sA sN
    injection h with h; subst h
    exact ⟨⟨_, rfl⟩, ⟨_, rfl⟩, xStart ⟨base, tA, tN, mA, mN, hA, hN, qA, qN, bA, bN, around, want, stat, least, most⟩ sA sN⟩
  · cases h
theorem qRest : QOk Try.prog 50 (toQ F_rest) := by
  refine Q_of_x (EX_ok _) (C0_ok _) mixed (n := 3) (fun args v h => ?_)
  unfold F_rest at h
  split at h
  · rename_i base tA tN mA mN hA hN qA qN bA bN around want stat least most a b c d e
    injection h with h; subst h
    exact ⟨⟨_, rfl⟩, ⟨_, rfl⟩, xRest ⟨base, tA, tN, mA, mN, hA, hN, qA, qN, bA, bN, around, want, stat, least, most⟩ ⟨a, b, c, d, e⟩⟩
  · cases h
theorem qKnown : QOk Try.prog 23 (toQ F_known) := by
  refine Q_of_x (EX_ok _) (C0_ok _) mixed (n := 3) (fun args v h => ?_)
  unfold F_known at h
  split at h
  · rename_i tA tN hA hN bA bN
    injection h with h; subst h
    refine ⟨⟨_, rfl⟩, ⟨_, rfl⟩, (xKnown tA tN hA hN bA bN).trans ?_⟩
    cases tA <;> cases hA <;> cases bA <;> rfl
  · cases h
noncomputable def C2 : Ctx := addQ C1 50 F_rest
theorem C2_ok : COk Try.prog C2 := addQ_ok C1_ok qRest (fnOk_of Try.func50 (by kernel_rfl) (by kernel_rfl))
set_option maxRecDepth 100000 in
theorem xSaid (i : DIn) (o : O5) : xfun Try.prog (EX Try.prog) C2 3 49 [i.mv, o.mv] [] fin =
    bif DIn.mA i then bif DIn.qA i then some (MV.agg [MV.val (Value.int IntKind.i64 (O5.l o)), MV.val (Value.int IntKind.i64 (DIn.rest i { l := O5.l o, p := O5.p o, w := O5.w o, q := O5.q o, r := O5.r o } / 2)), MV.val (Value.int IntKind.i64 (O5.w o)), MV.val (Value.int IntKind.i64 (IntKind.wrap IntKind.i64 (DIn.rest i { l := O5.l o, p := O5.p o, w := O5.w o, q := O5.q o, r := O5.r o } - DIn.rest i { l := O5.l o, p := O5.p o, w := O5.w o, q := O5.q o, r := O5.r o } / 2))), MV.val (Value.int IntKind.i64 (O5.r o))], []) else bif DIn.mA i then some (MV.agg [MV.val (Value.int IntKind.i64 (O5.l o)), MV.val (Value.int IntKind.i64 (DIn.rest i { l := O5.l o, p := O5.p o, w := O5.w o, q := O5.q o, r := O5.r o })), MV.val (Value.int IntKind.i64 (O5.w o)), MV.val (Value.int IntKind.i64 (O5.q o)), MV.val (Value.int IntKind.i64 (O5.r o))], []) else bif DIn.qA i then some (MV.agg [MV.val (Value.int IntKind.i64 (O5.l o)), MV.val (Value.int IntKind.i64 (O5.p o)), MV.val (Value.int IntKind.i64 (O5.w o)), MV.val (Value.int IntKind.i64 (DIn.rest i { l := O5.l o, p := O5.p o, w := O5.w o, q := O5.q o, r := O5.r o })), MV.val (Value.int IntKind.i64 (O5.r o))], []) else some (MV.agg [MV.val (Value.int IntKind.i64 (O5.l o)), MV.val (Value.int IntKind.i64 (O5.p o)), MV.val (Value.int IntKind.i64 (O5.w o)), MV.val (Value.int IntKind.i64 (O5.q o)), MV.val (Value.int IntKind.i64 (IntKind.wrap IntKind.i64 (O5.r o + DIn.rest i { l := O5.l o, p := O5.p o, w := O5.w o, q := O5.q o, r := O5.r o })))], []) else bif DIn.mA i then some (MV.agg [MV.val (Value.int IntKind.i64 (O5.l o)), MV.val (Value.int IntKind.i64 (DIn.rest i { l := O5.l o, p := O5.p o, w := O5.w o, q := O5.q o, r := O5.r o })), MV.val (Value.int IntKind.i64 (O5.w o)), MV.val (Value.int IntKind.i64 (O5.q o)), MV.val (Value.int IntKind.i64 (O5.r o))], []) else bif DIn.qA i then some (MV.agg [MV.val (Value.int IntKind.i64 (O5.l o)), MV.val (Value.int IntKind.i64 (O5.p o)), MV.val (Value.int IntKind.i64 (O5.w o)), MV.val (Value.int IntKind.i64 (DIn.rest i { l := O5.l o, p := O5.p o, w := O5.w o, q := O5.q o, r := O5.r o })), MV.val (Value.int IntKind.i64 (O5.r o))], []) else some (MV.agg [MV.val (Value.int IntKind.i64 (O5.l o)), MV.val (Value.int IntKind.i64 (O5.p o)), MV.val (Value.int IntKind.i64 (O5.w o)), MV.val (Value.int IntKind.i64 (O5.q o)), MV.val (Value.int IntKind.i64 (IntKind.wrap IntKind.i64 (O5.r o + DIn.rest i { l := O5.l o, p := O5.p o, w := O5.w o, q := O5.q o, r := O5.r o })))], []) := by kernel_rfl
theorem qSaid : QOk Try.prog 49 (toQ F_said) := by
  refine Q_of_x (EX_ok _) C2_ok mixed (n := 3) (fun args v h => ?_)
  unfold F_said at h
  split at h
  · rename_i base tA tN mA mN hA hN qA qN bA bN around want stat least most a b c d e
    injection h with h; subst h
    refine ⟨⟨_, rfl⟩, ⟨_, rfl⟩, (xSaid ⟨base, tA, tN, mA, mN, hA, hN, qA, qN, bA, bN, around, want, stat, least, most⟩ ⟨a, b, c, d, e⟩).trans ?_⟩
    dsimp only [DIn.said, O5.mv, I, w6]
    cases mA <;> cases qA <;> simp only [cond_true, cond_false, Bool.true_and, Bool.false_and, Bool.and_true, Bool.and_false]
  · cases h
noncomputable def C3 : Ctx := addQ (addQ (addQ C2 36 F_start) 49 F_said) 23 F_known
theorem C3_ok : COk Try.prog C3 := addQ_ok (addQ_ok (addQ_ok C2_ok qStart (fnOk_of Try.func36 (by kernel_rfl) (by kernel_rfl))) qSaid (fnOk_of Try.func49 (by kernel_rfl) (by kernel_rfl))) qKnown (fnOk_of Try.func23 (by kernel_rfl) (by kernel_rfl))
def fin5T (o : O5) : Option Out := bif !fitsB o.l then some (MV.tup [O5.mv z5, I 0, B false], ([] : Mem)) else bif !fitsB o.p then some (MV.tup [O5.mv z5, I 0, B false], []) else bif !fitsB o.w then some (MV.tup [O5.mv z5, I 0, B false], []) else bif !fitsB o.q then some (MV.tup [O5.mv z5, I 0, B false], []) else bif !fitsB o.r then some (MV.tup [O5.mv z5, I 0, B false], []) else some (MV.tup [O5.mv o, I o.w, B true], [])
set_option maxRecDepth 100000 in
theorem xSol (i : DIn) (sA : Bool) (sN : Int) : xfun Try.prog (EX Try.prog) C3 8 38 [i.mv, .agg [B sA, I sN]] [] fin = fin5T (i.sol sA sN) := by
  obtain ⟨base, tA, tN, mA, mN, hA, hN, qA, qN, bA, bN, around, want, stat, least, most⟩ := i
  cases tA <;> cases sA <;> cases bA <;> kernel_rfl
def F_sol : List MV → Option MV
  | [.agg [.val (.int .i64 base), .val (.bool tA), .val (.int .i64 tN), .val (.bool mA), .val (.int .i64 mN), .val (.bool hA), .val (.int .i64 hN), .val (.bool qA), .val (.int .i64 qN), .val (.bool bA), .val (.int .i64 bN), .val (.int .i64 around), .val (.int .i64 want), .val (.int .i64 stat), .val (.int .i64 least), .val (.int .i64 most)], .agg [.val (.bool sA), .val (.int .i64 sN)]] => some (.tup [(bif ok5 (DIn.sol ⟨base, tA, tN, mA, mN, hA, hN, qA, qN, bA, bN, around, want, stat, least, most⟩ sA sN) then DIn.sol ⟨base, tA, tN, mA, mN, hA, hN, qA, qN, bA, bN, around, want, stat, least, most⟩ sA sN else z5).mv, I (bif ok5 (DIn.sol ⟨base, tA, tN, mA, mN, hA, hN, qA, qN, bA, bN, around, want, stat, least, most⟩ sA sN) then (DIn.sol ⟨base, tA, tN, mA, mN, hA, hN, qA, qN, bA, bN, around, want, stat, least, most⟩ sA sN).w else 0), B (ok5 (DIn.sol ⟨base, tA, tN, mA, mN, hA, hN, qA, qN, bA, bN, around, want, stat, least, most⟩ sA sN))])
  | _ => none
theorem qSol : QOk Try.prog 38 (toQ F_sol) := by
  refine Q_of_x (EX_ok _) C3_ok mixed (n := 8) (fun args v h => ?_)
  unfold F_sol at h
  split at h
  · rename_i base tA tN mA mN hA hN qA qN bA bN around want stat least most sA sN
    injection h with h; subst h
    refine ⟨⟨_, rfl⟩, ⟨_, rfl⟩, (xSol ⟨base, tA, tN, mA, mN, hA, hN, qA, qN, bA, bN, around, want, stat, least, most⟩ sA sN).trans ?_⟩
    have fin5 : ∀ o : O5, fin5T o = some (MV.tup [(bif ok5 o then o else z5).mv, I (bif ok5 o then o.w else 0), B (ok5 o)], []) := by
      intro o
      unfold ok5 fin5T
      cases fitsB o.l <;> cases fitsB o.p <;> cases fitsB o.w <;> cases fitsB o.q <;> cases fitsB o.r <;> rfl
    exact fin5 _
  · cases h
end Go.Proofs.Ytokdpnpldoaepaa.Dr
