/- What is proved: contracts of the document's text of the layer hang. Conditions: none but those in each statement. -/
import Derived.Test.YtokdpnpldoaepaaHgE
namespace Go.Proofs.Ytokdpnpldoaepaa.Hg
open Go Go.RowKit Go.Proofs.Ytokdpnpldoaepaa.X Go.Proofs.Ytokdpnpldoaepaa.Ac
set_option linter.unusedVariables false
set_option linter.unusedSimpArgs false
def setN (rtl : Bool) (o : O5) (r : Int) : Nat → O5
  | 0 => ⟨r, o.p, o.w, o.q, o.r⟩
  | 1 => ⟨o.l, r, o.w, o.q, o.r⟩
  | 2 => ⟨o.l, o.p, r, o.q, o.r⟩
  | 3 => ⟨o.l, o.p, o.w, r, o.r⟩
  | 4 => ⟨o.l, o.p, o.w, o.q, r⟩
  | _ => bif rtl then ⟨w6 (o.l + r), o.p, o.w, o.q, o.r⟩ else ⟨o.l, o.p, o.w, o.q, w6 (o.r + r)⟩
def HIn.plain (i : HIn) (sA : Bool) : Bool := !i.lA && (!sA && !i.rA)
def HIn.nums (i : HIn) (sA : Bool) (sN : Int) : O5 :=
  ⟨bif i.lA && (i.rA && !i.turned) then i.stat else i.lN, bif i.plain sA then i.pN else orV i.pA i.pN 0, bif sA && (i.lA || i.rA) then i.want else sN, bif i.plain sA then i.qN else orV i.qA i.qN 0, bif i.rA && (i.lA && i.turned) then i.behind else i.rN⟩
def HIn.last (i : HIn) (sA : Bool) : Nat :=
  bif i.rA && !(i.lA && i.turned) then 4 else bif i.plain sA && i.qA then 3 else bif sA && !(i.lA || i.rA) then 2 else bif i.plain sA && i.pA then 1 else bif i.lA && !(i.rA && !i.turned) then 0 else 5
def HIn.both (i : HIn) (o : O5) (r : Int) : O5 := bif decide (r < 0) then (bif i.rtl then ⟨o.l, r, o.w, 0, o.r⟩ else ⟨o.l, 0, o.w, r, o.r⟩) else ⟨o.l, refHalf r, o.w, w6 (r - refHalf r), o.r⟩
def HIn.refFor (i : HIn) (sA : Bool) (sN : Int) : O5 :=
  bif i.plain sA && (i.pA && i.qA) then i.both (i.nums sA sN) (i.rest (i.nums sA sN)) else setN i.rtl (i.nums sA sN) (i.rest (i.nums sA sN)) (i.last sA)
def fin5R (o : O5) : Option Out := bif !fitsB o.l then some (MV.tup [O5.mv z5, B false], ([] : Mem)) else bif !fitsB o.p then some (MV.tup [O5.mv z5, B false], []) else bif !fitsB o.w then some (MV.tup [O5.mv z5, B false], []) else bif !fitsB o.q then some (MV.tup [O5.mv z5, B false], []) else bif !fitsB o.r then some (MV.tup [O5.mv z5, B false], []) else some (MV.tup [O5.mv o, B true], [])
def HIn.bothT (i : HIn) (o : O5) (r : Int) : Option Out :=
  bif decide (r < 0) then (bif i.rtl then fin5R ⟨o.l, r, o.w, 0, o.r⟩ else bif decide (r < 0) then fin5R ⟨o.l, 0, o.w, r, o.r⟩ else fin5R ⟨o.l, refHalf r, o.w, w6 (r - refHalf r), o.r⟩)
  else bif decide (r < 0) then fin5R ⟨o.l, 0, o.w, r, o.r⟩ else fin5R ⟨o.l, refHalf r, o.w, w6 (r - refHalf r), o.r⟩
def HIn.refForT (i : HIn) (sA : Bool) (sN : Int) : Option Out :=
  bif i.plain sA && (i.pA && i.qA) then i.bothT (i.nums sA sN) (i.rest (i.nums sA sN)) else fin5R (setN i.rtl (i.nums sA sN) (i.rest (i.nums sA sN)) (i.last sA))
set_option maxRecDepth 100000 in
set_option maxHeartbeats 4000000 in
theorem xFor (i : HIn) (sA : Bool) (sN : Int) : xfun Try.prog (EX Try.prog) D1 8 43 [i.mv, .agg [B sA, I sN]] [] fin = i.refForT sA sN := by
  obtain ⟨base, lA, lN, pA, pN, wA, wN, qA, qN, rA, rN, around, want, stat, behind, rtl, turned, least, most⟩ := i
  cases lA <;> cases sA <;> cases rA
  · cases pA <;> cases qA <;> cases rtl <;> (as_aux_lemma => kernel_rfl)
  · as_aux_lemma => kernel_rfl
  · as_aux_lemma => kernel_rfl
  · as_aux_lemma => kernel_rfl
  · as_aux_lemma => kernel_rfl
  · cases turned <;> (as_aux_lemma => kernel_rfl)
  · as_aux_lemma => kernel_rfl
  · cases turned <;> (as_aux_lemma => kernel_rfl)
theorem refForT_eq (i : HIn) (sA : Bool) (sN : Int) : i.refForT sA sN = fin5R (i.refFor sA sN) := by
  unfold HIn.refForT HIn.refFor HIn.bothT HIn.both
  cases (i.plain sA && (i.pA && i.qA)) with
  | false => rfl
  | true =>
    simp only [cond_true]
    generalize i.rest (i.nums sA sN) = r
    by_cases h : r < 0 <;> simp only [h, decide_true, decide_false, cond_true, cond_false]
    cases i.rtl <;> rfl
def F_For : List MV → Option MV
  | [.agg [.val (.int .i64 base), .val (.bool lA), .val (.int .i64 lN), .val (.bool pA), .val (.int .i64 pN), .val (.bool wA), .val (.int .i64 wN), .val (.bool qA), .val (.int .i64 qN), .val (.bool rA), .val (.int .i64 rN), .val (.int .i64 around), .val (.int .i64 want), .val (.int .i64 stat), .val (.int .i64 behind), .val (.bool rtl), .val (.bool turned), .val (.int .i64 least), .val (.int .i64 most)], .agg [.val (.bool sA), .val (.int .i64 sN)]] => some (.tup [(bif ok5 (HIn.refFor ⟨base, lA, lN, pA, pN, wA, wN, qA, qN, rA, rN, around, want, stat, behind, rtl, turned, least, most⟩ sA sN) then HIn.refFor ⟨base, lA, lN, pA, pN, wA, wN, qA, qN, rA, rN, around, want, stat, behind, rtl, turned, least, most⟩ sA sN else z5).mv, B (ok5 (HIn.refFor ⟨base, lA, lN, pA, pN, wA, wN, qA, qN, rA, rN, around, want, stat, behind, rtl, turned, least, most⟩ sA sN))])
  | _ => none
theorem qFor : QOk Try.prog 43 (toQ F_For) := by
  refine Q_of_x (EX_ok _) D1_ok mixed (n := 8) (fun args v h => ?_)
  unfold F_For at h
  split at h
  · rename_i base lA lN pA pN wA wN qA qN rA rN around want stat behind rtl turned least most sA sN
    injection h with h; subst h
    refine ⟨⟨_, rfl⟩, ⟨_, rfl⟩, (xFor ⟨base, lA, lN, pA, pN, wA, wN, qA, qN, rA, rN, around, want, stat, behind, rtl, turned, least, most⟩ sA sN).trans ((refForT_eq _ _ _).trans ?_)⟩
    generalize HIn.refFor ⟨base, lA, lN, pA, pN, wA, wN, qA, qN, rA, rN, around, want, stat, behind, rtl, turned, least, most⟩ sA sN = o
    unfold fin5R ok5
    cases fitsB o.l <;> cases fitsB o.p <;> cases fitsB o.w <;> cases fitsB o.q <;> cases fitsB o.r <;> rfl
  · cases h
noncomputable def R1 : Ctx := addQ D1 43 F_For
theorem R1_ok : COk Try.prog R1 := addQ_ok D1_ok qFor (fnOk_of Try.func43 (by kernel_rfl) (by kernel_rfl))
end Go.Proofs.Ytokdpnpldoaepaa.Hg
