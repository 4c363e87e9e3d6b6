/- What is proved: contracts of Solve of the layer across, and of the document's answer. Conditions: none but those in each statement. -/
import Derived.Test.YtokdpnpldoaepaaAcC
namespace Go.Proofs.Ytokdpnpldoaepaa.Ac
open Go Go.RowKit Go.Proofs.Ytokdpnpldoaepaa.X
set_option linter.unusedVariables false
set_option linter.unusedSimpArgs false
/-- What is asked for a size, and anew, if it is too great or too small. -/
def solveB {O : Type} (f : Bool → Int → O) (num : O → Int) (ok : O → Bool) (z : O) (b : Bool) (n least most : Int) : O × Bool :=
  bif !ok (f b n) then (z, false) else
  bif decide (num (f b n) > most) then
    (bif !ok (f false most) then (z, false) else
    bif decide (num (f false most) < least) then (bif !ok (f false least) then (z, false) else (f false least, true)) else (f false most, true))
  else bif decide (num (f b n) < least) then (bif !ok (f false least) then (z, false) else (f false least, true)) else (f b n, true)
def AIn.fits (i : AIn) : Bool := fitsB i.base && (fitsB i.around && (fitsB (orV i.lA i.lN 0) && (fitsB (orV i.wA i.wN 0) && fitsB (orV i.rA i.rN 0))))
def AIn.solve (i : AIn) : (Int × Int × Int) × Bool := bif i.fits then solveB i.sol (fun o => o.2.1) ok3 (0, 0, 0) i.wA i.wN i.least i.most else ((0, 0, 0), false)
abbrev out3 (o : Int × Int × Int) : MV := .agg [I o.1, I o.2.1, I o.2.2]
def F_15 : List MV → Option MV
  | [.agg [.val (.int .i64 base), .val (.bool lA), .val (.int .i64 lN), .val (.bool wA), .val (.int .i64 wN), .val (.bool rA), .val (.int .i64 rN), .val (.int .i64 around), .val (.bool rtl), .val (.int .i64 least), .val (.int .i64 most)]] =>
    some (.tup [out3 (AIn.solve ⟨base, lA, lN, wA, wN, rA, rN, around, rtl, least, most⟩).1, B (AIn.solve ⟨base, lA, lN, wA, wN, rA, rN, around, rtl, least, most⟩).2])
  | _ => none
theorem q15 : QOk Try.prog 15 (toQ F_15) := by
  refine Q_of_x (EX_ok _) C6_ok mixed (n := 7) (fun args v h => ?_)
  unfold F_15 at h
  split at h
  · rename_i base lA lN wA wN rA rN around rtl least most
    injection h with h; subst h
    refine ⟨⟨_, rfl⟩, ⟨_, rfl⟩, ?_⟩
    generalize hi : AIn.mk base lA lN wA wN rA rN around rtl least most = i
    have e : (MV.agg [.val (.int .i64 base), .val (.bool lA), .val (.int .i64 lN), .val (.bool wA), .val (.int .i64 wN), .val (.bool rA), .val (.int .i64 rN), .val (.int .i64 around), .val (.bool rtl), .val (.int .i64 least), .val (.int .i64 most)]) = i.mv := by rw [← hi]
    rw [e]
    refine (x15 i).trans ?_
    clear e hi
    dsimp only [AIn.solve, AIn.fits, solveB, out3, I, B]
    generalize fitsB i.base = a1
    generalize fitsB i.around = a2
    generalize fitsB (orV i.lA i.lN 0) = a3
    generalize fitsB (orV i.wA i.wN 0) = a4
    generalize fitsB (orV i.rA i.rN 0) = a5
    generalize i.sol i.wA i.wN = o1
    generalize i.sol false i.most = o2
    generalize i.sol false i.least = o3
    generalize ok3 o1 = b1
    generalize ok3 o2 = b2
    generalize ok3 o3 = b3
    by_cases h1 : o1.2.1 > i.most <;> by_cases h2 : o2.2.1 < i.least <;> by_cases h3 : o1.2.1 < i.least <;> simp only [h1, h2, h3, decide_true, decide_false] <;> clear h1 h2 h3
    all_goals
      cases a1 <;> simp only [cond_true, cond_false, Bool.not_true, Bool.not_false, Bool.true_and, Bool.false_and]
      cases a2 <;> simp only [cond_true, cond_false, Bool.not_true, Bool.not_false, Bool.true_and, Bool.false_and]
      cases a3 <;> simp only [cond_true, cond_false, Bool.not_true, Bool.not_false, Bool.true_and, Bool.false_and]
      cases a4 <;> simp only [cond_true, cond_false, Bool.not_true, Bool.not_false, Bool.true_and, Bool.false_and]
      cases a5 <;> simp only [cond_true, cond_false, Bool.not_true, Bool.not_false, Bool.true_and, Bool.false_and]
      cases b1 <;> simp only [cond_true, cond_false, Bool.not_true, Bool.not_false]
      all_goals first | done | (cases b2 <;> cases b3 <;> simp only [cond_true, cond_false, Bool.not_true, Bool.not_false])
  · cases h
set_option maxRecDepth 100000 in
theorem x35 (i : AIn) (sA : Bool) (sN : Int) : xfun Try.prog (EX Try.prog) D1 6 35 [i.mv, .agg [B sA, I sN]] [] fin =
    bif sA then
      bif
          !fitsB
              (IntKind.wrap IntKind.i64
                (IntKind.wrap IntKind.i64
                    (IntKind.wrap IntKind.i64 (AIn.base i - AIn.around i) - orV (AIn.lA i) (AIn.lN i) 0) -
                  orV (AIn.rA i) (AIn.rN i) 0)) then
        some
          (MV.tup
              [MV.agg
                  [MV.val (Value.int IntKind.i64 0), MV.val (Value.int IntKind.i64 0), MV.val (Value.int IntKind.i64 0)],
                MV.val (Value.bool false)],
            [])
      else
        bif
            decide
              (IntKind.wrap IntKind.i64
                  (IntKind.wrap IntKind.i64
                      (IntKind.wrap IntKind.i64 (orV false (orV (AIn.lA i) (AIn.lN i) 0) 0 + AIn.around i) +
                        IntKind.wrap IntKind.i64
                          (IntKind.wrap IntKind.i64
                              (IntKind.wrap IntKind.i64 (AIn.base i - AIn.around i) - orV (AIn.lA i) (AIn.lN i) 0) -
                            orV (AIn.rA i) (AIn.rN i) 0)) +
                    orV false (orV (AIn.rA i) (AIn.rN i) 0) 0) >
                AIn.base i) then
          bif AIn.rtl i then
            bif
                fitsB
                  (IntKind.wrap IntKind.i64
                    (IntKind.wrap IntKind.i64
                        (IntKind.wrap IntKind.i64 (AIn.base i - AIn.around i) -
                          IntKind.wrap IntKind.i64
                            (IntKind.wrap IntKind.i64
                                (IntKind.wrap IntKind.i64 (AIn.base i - AIn.around i) - orV (AIn.lA i) (AIn.lN i) 0) -
                              orV (AIn.rA i) (AIn.rN i) 0)) -
                      orV false (orV (AIn.rA i) (AIn.rN i) 0) 0)) then
              some
                (MV.tup
                    [MV.agg
                        [MV.val
                            (Value.int IntKind.i64
                              (IntKind.wrap IntKind.i64
                                (IntKind.wrap IntKind.i64
                                    (IntKind.wrap IntKind.i64 (AIn.base i - AIn.around i) -
                                      IntKind.wrap IntKind.i64
                                        (IntKind.wrap IntKind.i64
                                            (IntKind.wrap IntKind.i64 (AIn.base i - AIn.around i) -
                                              orV (AIn.lA i) (AIn.lN i) 0) -
                                          orV (AIn.rA i) (AIn.rN i) 0)) -
                                  orV false (orV (AIn.rA i) (AIn.rN i) 0) 0))),
                          MV.val
                            (Value.int IntKind.i64
                              (IntKind.wrap IntKind.i64
                                (IntKind.wrap IntKind.i64
                                    (IntKind.wrap IntKind.i64 (AIn.base i - AIn.around i) - orV (AIn.lA i) (AIn.lN i) 0) -
                                  orV (AIn.rA i) (AIn.rN i) 0))),
                          MV.val (Value.int IntKind.i64 (orV false (orV (AIn.rA i) (AIn.rN i) 0) 0))],
                      MV.val (Value.bool (fitsB (orV false (orV (AIn.rA i) (AIn.rN i) 0) 0)))],
                  [])
            else
              some
                (MV.tup
                    [MV.agg
                        [MV.val
                            (Value.int IntKind.i64
                              (IntKind.wrap IntKind.i64
                                (IntKind.wrap IntKind.i64
                                    (IntKind.wrap IntKind.i64 (AIn.base i - AIn.around i) -
                                      IntKind.wrap IntKind.i64
                                        (IntKind.wrap IntKind.i64
                                            (IntKind.wrap IntKind.i64 (AIn.base i - AIn.around i) -
                                              orV (AIn.lA i) (AIn.lN i) 0) -
                                          orV (AIn.rA i) (AIn.rN i) 0)) -
                                  orV false (orV (AIn.rA i) (AIn.rN i) 0) 0))),
                          MV.val
                            (Value.int IntKind.i64
                              (IntKind.wrap IntKind.i64
                                (IntKind.wrap IntKind.i64
                                    (IntKind.wrap IntKind.i64 (AIn.base i - AIn.around i) - orV (AIn.lA i) (AIn.lN i) 0) -
                                  orV (AIn.rA i) (AIn.rN i) 0))),
                          MV.val (Value.int IntKind.i64 (orV false (orV (AIn.rA i) (AIn.rN i) 0) 0))],
                      MV.val (Value.bool false)],
                  [])
          else
            bif fitsB (orV false (orV (AIn.lA i) (AIn.lN i) 0) 0) then
              some
                (MV.tup
                    [MV.agg
                        [MV.val (Value.int IntKind.i64 (orV false (orV (AIn.lA i) (AIn.lN i) 0) 0)),
                          MV.val
                            (Value.int IntKind.i64
                              (IntKind.wrap IntKind.i64
                                (IntKind.wrap IntKind.i64
                                    (IntKind.wrap IntKind.i64 (AIn.base i - AIn.around i) - orV (AIn.lA i) (AIn.lN i) 0) -
                                  orV (AIn.rA i) (AIn.rN i) 0))),
                          MV.val
                            (Value.int IntKind.i64
                              (IntKind.wrap IntKind.i64
                                (IntKind.wrap IntKind.i64
                                    (IntKind.wrap IntKind.i64 (AIn.base i - AIn.around i) -
                                      IntKind.wrap IntKind.i64
                                        (IntKind.wrap IntKind.i64
                                            (IntKind.wrap IntKind.i64 (AIn.base i - AIn.around i) -
                                              orV (AIn.lA i) (AIn.lN i) 0) -
                                          orV (AIn.rA i) (AIn.rN i) 0)) -
                                  orV false (orV (AIn.lA i) (AIn.lN i) 0) 0)))],
                      MV.val
                        (Value.bool
                          (fitsB
                            (IntKind.wrap IntKind.i64
                              (IntKind.wrap IntKind.i64
                                  (IntKind.wrap IntKind.i64 (AIn.base i - AIn.around i) -
                                    IntKind.wrap IntKind.i64
                                      (IntKind.wrap IntKind.i64
                                          (IntKind.wrap IntKind.i64 (AIn.base i - AIn.around i) -
                                            orV (AIn.lA i) (AIn.lN i) 0) -
                                        orV (AIn.rA i) (AIn.rN i) 0)) -
                                orV false (orV (AIn.lA i) (AIn.lN i) 0) 0))))],
                  [])
            else
              some
                (MV.tup
                    [MV.agg
                        [MV.val (Value.int IntKind.i64 (orV false (orV (AIn.lA i) (AIn.lN i) 0) 0)),
                          MV.val
                            (Value.int IntKind.i64
                              (IntKind.wrap IntKind.i64
                                (IntKind.wrap IntKind.i64
                                    (IntKind.wrap IntKind.i64 (AIn.base i - AIn.around i) - orV (AIn.lA i) (AIn.lN i) 0) -
                                  orV (AIn.rA i) (AIn.rN i) 0))),
                          MV.val
                            (Value.int IntKind.i64
                              (IntKind.wrap IntKind.i64
                                (IntKind.wrap IntKind.i64
                                    (IntKind.wrap IntKind.i64 (AIn.base i - AIn.around i) -
                                      IntKind.wrap IntKind.i64
                                        (IntKind.wrap IntKind.i64
                                            (IntKind.wrap IntKind.i64 (AIn.base i - AIn.around i) -
                                              orV (AIn.lA i) (AIn.lN i) 0) -
                                          orV (AIn.rA i) (AIn.rN i) 0)) -
                                  orV false (orV (AIn.lA i) (AIn.lN i) 0) 0)))],
                      MV.val (Value.bool false)],
                  [])
        else
          bif AIn.rtl i then
            bif
                fitsB
                  (IntKind.wrap IntKind.i64
                    (IntKind.wrap IntKind.i64
                        (IntKind.wrap IntKind.i64 (AIn.base i - AIn.around i) -
                          IntKind.wrap IntKind.i64
                            (IntKind.wrap IntKind.i64
                                (IntKind.wrap IntKind.i64 (AIn.base i - AIn.around i) - orV (AIn.lA i) (AIn.lN i) 0) -
                              orV (AIn.rA i) (AIn.rN i) 0)) -
                      orV (AIn.rA i) (AIn.rN i) 0)) then
              some
                (MV.tup
                    [MV.agg
                        [MV.val
                            (Value.int IntKind.i64
                              (IntKind.wrap IntKind.i64
                                (IntKind.wrap IntKind.i64
                                    (IntKind.wrap IntKind.i64 (AIn.base i - AIn.around i) -
                                      IntKind.wrap IntKind.i64
                                        (IntKind.wrap IntKind.i64
                                            (IntKind.wrap IntKind.i64 (AIn.base i - AIn.around i) -
                                              orV (AIn.lA i) (AIn.lN i) 0) -
                                          orV (AIn.rA i) (AIn.rN i) 0)) -
                                  orV (AIn.rA i) (AIn.rN i) 0))),
                          MV.val
                            (Value.int IntKind.i64
                              (IntKind.wrap IntKind.i64
                                (IntKind.wrap IntKind.i64
                                    (IntKind.wrap IntKind.i64 (AIn.base i - AIn.around i) - orV (AIn.lA i) (AIn.lN i) 0) -
                                  orV (AIn.rA i) (AIn.rN i) 0))),
                          MV.val (Value.int IntKind.i64 (orV (AIn.rA i) (AIn.rN i) 0))],
                      MV.val (Value.bool (fitsB (orV (AIn.rA i) (AIn.rN i) 0)))],
                  [])
            else
              some
                (MV.tup
                    [MV.agg
                        [MV.val
                            (Value.int IntKind.i64
                              (IntKind.wrap IntKind.i64
                                (IntKind.wrap IntKind.i64
                                    (IntKind.wrap IntKind.i64 (AIn.base i - AIn.around i) -
                                      IntKind.wrap IntKind.i64
                                        (IntKind.wrap IntKind.i64
                                            (IntKind.wrap IntKind.i64 (AIn.base i - AIn.around i) -
                                              orV (AIn.lA i) (AIn.lN i) 0) -
                                          orV (AIn.rA i) (AIn.rN i) 0)) -
                                  orV (AIn.rA i) (AIn.rN i) 0))),
                          MV.val
                            (Value.int IntKind.i64
                              (IntKind.wrap IntKind.i64
                                (IntKind.wrap IntKind.i64
                                    (IntKind.wrap IntKind.i64 (AIn.base i - AIn.around i) - orV (AIn.lA i) (AIn.lN i) 0) -
                                  orV (AIn.rA i) (AIn.rN i) 0))),
                          MV.val (Value.int IntKind.i64 (orV (AIn.rA i) (AIn.rN i) 0))],
                      MV.val (Value.bool false)],
                  [])
          else
            bif fitsB (orV (AIn.lA i) (AIn.lN i) 0) then
              some
                (MV.tup
                    [MV.agg
                        [MV.val (Value.int IntKind.i64 (orV (AIn.lA i) (AIn.lN i) 0)),
                          MV.val
                            (Value.int IntKind.i64
                              (IntKind.wrap IntKind.i64
                                (IntKind.wrap IntKind.i64
                                    (IntKind.wrap IntKind.i64 (AIn.base i - AIn.around i) - orV (AIn.lA i) (AIn.lN i) 0) -
                                  orV (AIn.rA i) (AIn.rN i) 0))),
                          MV.val
                            (Value.int IntKind.i64
                              (IntKind.wrap IntKind.i64
                                (IntKind.wrap IntKind.i64
                                    (IntKind.wrap IntKind.i64 (AIn.base i - AIn.around i) -
                                      IntKind.wrap IntKind.i64
                                        (IntKind.wrap IntKind.i64
                                            (IntKind.wrap IntKind.i64 (AIn.base i - AIn.around i) -
                                              orV (AIn.lA i) (AIn.lN i) 0) -
                                          orV (AIn.rA i) (AIn.rN i) 0)) -
                                  orV (AIn.lA i) (AIn.lN i) 0)))],
                      MV.val
                        (Value.bool
                          (fitsB
                            (IntKind.wrap IntKind.i64
                              (IntKind.wrap IntKind.i64
                                  (IntKind.wrap IntKind.i64 (AIn.base i - AIn.around i) -
                                    IntKind.wrap IntKind.i64
                                      (IntKind.wrap IntKind.i64
                                          (IntKind.wrap IntKind.i64 (AIn.base i - AIn.around i) -
                                            orV (AIn.lA i) (AIn.lN i) 0) -
                                        orV (AIn.rA i) (AIn.rN i) 0)) -
                                orV (AIn.lA i) (AIn.lN i) 0))))],
                  [])
            else
              some
                (MV.tup
                    [MV.agg
                        [MV.val (Value.int IntKind.i64 (orV (AIn.lA i) (AIn.lN i) 0)),
                          MV.val
                            (Value.int IntKind.i64
                              (IntKind.wrap IntKind.i64
                                (IntKind.wrap IntKind.i64
                                    (IntKind.wrap IntKind.i64 (AIn.base i - AIn.around i) - orV (AIn.lA i) (AIn.lN i) 0) -
                                  orV (AIn.rA i) (AIn.rN i) 0))),
                          MV.val
                            (Value.int IntKind.i64
                              (IntKind.wrap IntKind.i64
                                (IntKind.wrap IntKind.i64
                                    (IntKind.wrap IntKind.i64 (AIn.base i - AIn.around i) -
                                      IntKind.wrap IntKind.i64
                                        (IntKind.wrap IntKind.i64
                                            (IntKind.wrap IntKind.i64 (AIn.base i - AIn.around i) -
                                              orV (AIn.lA i) (AIn.lN i) 0) -
                                          orV (AIn.rA i) (AIn.rN i) 0)) -
                                  orV (AIn.lA i) (AIn.lN i) 0)))],
                      MV.val (Value.bool false)],
                  [])
    else
      bif !fitsB sN then
        some
          (MV.tup
              [MV.agg
                  [MV.val (Value.int IntKind.i64 0), MV.val (Value.int IntKind.i64 0), MV.val (Value.int IntKind.i64 0)],
                MV.val (Value.bool false)],
            [])
      else
        bif
            decide
              (IntKind.wrap IntKind.i64
                  (IntKind.wrap IntKind.i64 (IntKind.wrap IntKind.i64 (orV (AIn.lA i) (AIn.lN i) 0 + AIn.around i) + sN) +
                    orV (AIn.rA i) (AIn.rN i) 0) >
                AIn.base i) then
          bif AIn.rtl i then
            bif
                fitsB
                  (IntKind.wrap IntKind.i64
                    (IntKind.wrap IntKind.i64 (IntKind.wrap IntKind.i64 (AIn.base i - AIn.around i) - sN) -
                      orV (AIn.rA i) (AIn.rN i) 0)) then
              some
                (MV.tup
                    [MV.agg
                        [MV.val
                            (Value.int IntKind.i64
                              (IntKind.wrap IntKind.i64
                                (IntKind.wrap IntKind.i64 (IntKind.wrap IntKind.i64 (AIn.base i - AIn.around i) - sN) -
                                  orV (AIn.rA i) (AIn.rN i) 0))),
                          MV.val (Value.int IntKind.i64 sN), MV.val (Value.int IntKind.i64 (orV (AIn.rA i) (AIn.rN i) 0))],
                      MV.val (Value.bool (fitsB (orV (AIn.rA i) (AIn.rN i) 0)))],
                  [])
            else
              some
                (MV.tup
                    [MV.agg
                        [MV.val
                            (Value.int IntKind.i64
                              (IntKind.wrap IntKind.i64
                                (IntKind.wrap IntKind.i64 (IntKind.wrap IntKind.i64 (AIn.base i - AIn.around i) - sN) -
                                  orV (AIn.rA i) (AIn.rN i) 0))),
                          MV.val (Value.int IntKind.i64 sN), MV.val (Value.int IntKind.i64 (orV (AIn.rA i) (AIn.rN i) 0))],
                      MV.val (Value.bool false)],
                  [])
          else
            bif fitsB (orV (AIn.lA i) (AIn.lN i) 0) then
              some
                (MV.tup
                    [MV.agg
                        [MV.val (Value.int IntKind.i64 (orV (AIn.lA i) (AIn.lN i) 0)), MV.val (Value.int IntKind.i64 sN),
                          MV.val
                            (Value.int IntKind.i64
                              (IntKind.wrap IntKind.i64
                                (IntKind.wrap IntKind.i64 (IntKind.wrap IntKind.i64 (AIn.base i - AIn.around i) - sN) -
                                  orV (AIn.lA i) (AIn.lN i) 0)))],
                      MV.val
                        (Value.bool
                          (fitsB
                            (IntKind.wrap IntKind.i64
                              (IntKind.wrap IntKind.i64 (IntKind.wrap IntKind.i64 (AIn.base i - AIn.around i) - sN) -
                                orV (AIn.lA i) (AIn.lN i) 0))))],
                  [])
            else
              some
                (MV.tup
                    [MV.agg
                        [MV.val (Value.int IntKind.i64 (orV (AIn.lA i) (AIn.lN i) 0)), MV.val (Value.int IntKind.i64 sN),
                          MV.val
                            (Value.int IntKind.i64
                              (IntKind.wrap IntKind.i64
                                (IntKind.wrap IntKind.i64 (IntKind.wrap IntKind.i64 (AIn.base i - AIn.around i) - sN) -
                                  orV (AIn.lA i) (AIn.lN i) 0)))],
                      MV.val (Value.bool false)],
                  [])
        else
          bif AIn.lA i then
            bif AIn.rA i then
              bif
                  fitsB
                    (refHalf (IntKind.wrap IntKind.i64 (IntKind.wrap IntKind.i64 (AIn.base i - AIn.around i) - sN))) then
                some
                  (MV.tup
                      [MV.agg
                          [MV.val
                              (Value.int IntKind.i64
                                (refHalf
                                  (IntKind.wrap IntKind.i64 (IntKind.wrap IntKind.i64 (AIn.base i - AIn.around i) - sN)))),
                            MV.val (Value.int IntKind.i64 sN),
                            MV.val
                              (Value.int IntKind.i64
                                (IntKind.wrap IntKind.i64
                                  (IntKind.wrap IntKind.i64 (IntKind.wrap IntKind.i64 (AIn.base i - AIn.around i) - sN) -
                                    refHalf
                                      (IntKind.wrap IntKind.i64
                                        (IntKind.wrap IntKind.i64 (AIn.base i - AIn.around i) - sN)))))],
                        MV.val
                          (Value.bool
                            (fitsB
                              (IntKind.wrap IntKind.i64
                                (IntKind.wrap IntKind.i64 (IntKind.wrap IntKind.i64 (AIn.base i - AIn.around i) - sN) -
                                  refHalf
                                    (IntKind.wrap IntKind.i64
                                      (IntKind.wrap IntKind.i64 (AIn.base i - AIn.around i) - sN))))))],
                    [])
              else
                some
                  (MV.tup
                      [MV.agg
                          [MV.val
                              (Value.int IntKind.i64
                                (refHalf
                                  (IntKind.wrap IntKind.i64 (IntKind.wrap IntKind.i64 (AIn.base i - AIn.around i) - sN)))),
                            MV.val (Value.int IntKind.i64 sN),
                            MV.val
                              (Value.int IntKind.i64
                                (IntKind.wrap IntKind.i64
                                  (IntKind.wrap IntKind.i64 (IntKind.wrap IntKind.i64 (AIn.base i - AIn.around i) - sN) -
                                    refHalf
                                      (IntKind.wrap IntKind.i64
                                        (IntKind.wrap IntKind.i64 (AIn.base i - AIn.around i) - sN)))))],
                        MV.val (Value.bool false)],
                    [])
            else
              bif AIn.lA i then
                bif
                    fitsB
                      (IntKind.wrap IntKind.i64
                        (IntKind.wrap IntKind.i64 (IntKind.wrap IntKind.i64 (AIn.base i - AIn.around i) - sN) -
                          AIn.rN i)) then
                  some
                    (MV.tup
                        [MV.agg
                            [MV.val
                                (Value.int IntKind.i64
                                  (IntKind.wrap IntKind.i64
                                    (IntKind.wrap IntKind.i64 (IntKind.wrap IntKind.i64 (AIn.base i - AIn.around i) - sN) -
                                      AIn.rN i))),
                              MV.val (Value.int IntKind.i64 sN), MV.val (Value.int IntKind.i64 (AIn.rN i))],
                          MV.val (Value.bool (fitsB (AIn.rN i)))],
                      [])
                else
                  some
                    (MV.tup
                        [MV.agg
                            [MV.val
                                (Value.int IntKind.i64
                                  (IntKind.wrap IntKind.i64
                                    (IntKind.wrap IntKind.i64 (IntKind.wrap IntKind.i64 (AIn.base i - AIn.around i) - sN) -
                                      AIn.rN i))),
                              MV.val (Value.int IntKind.i64 sN), MV.val (Value.int IntKind.i64 (AIn.rN i))],
                          MV.val (Value.bool false)],
                      [])
              else
                bif !AIn.rA i then
                  bif AIn.rtl i then
                    bif
                        fitsB
                          (IntKind.wrap IntKind.i64
                            (IntKind.wrap IntKind.i64 (IntKind.wrap IntKind.i64 (AIn.base i - AIn.around i) - sN) -
                              AIn.rN i)) then
                      some
                        (MV.tup
                            [MV.agg
                                [MV.val
                                    (Value.int IntKind.i64
                                      (IntKind.wrap IntKind.i64
                                        (IntKind.wrap IntKind.i64
                                            (IntKind.wrap IntKind.i64 (AIn.base i - AIn.around i) - sN) -
                                          AIn.rN i))),
                                  MV.val (Value.int IntKind.i64 sN), MV.val (Value.int IntKind.i64 (AIn.rN i))],
                              MV.val (Value.bool (fitsB (AIn.rN i)))],
                          [])
                    else
                      some
                        (MV.tup
                            [MV.agg
                                [MV.val
                                    (Value.int IntKind.i64
                                      (IntKind.wrap IntKind.i64
                                        (IntKind.wrap IntKind.i64
                                            (IntKind.wrap IntKind.i64 (AIn.base i - AIn.around i) - sN) -
                                          AIn.rN i))),
                                  MV.val (Value.int IntKind.i64 sN), MV.val (Value.int IntKind.i64 (AIn.rN i))],
                              MV.val (Value.bool false)],
                          [])
                  else
                    bif fitsB (AIn.lN i) then
                      some
                        (MV.tup
                            [MV.agg
                                [MV.val (Value.int IntKind.i64 (AIn.lN i)), MV.val (Value.int IntKind.i64 sN),
                                  MV.val
                                    (Value.int IntKind.i64
                                      (IntKind.wrap IntKind.i64
                                        (IntKind.wrap IntKind.i64
                                            (IntKind.wrap IntKind.i64 (AIn.base i - AIn.around i) - sN) -
                                          AIn.lN i)))],
                              MV.val
                                (Value.bool
                                  (fitsB
                                    (IntKind.wrap IntKind.i64
                                      (IntKind.wrap IntKind.i64
                                          (IntKind.wrap IntKind.i64 (AIn.base i - AIn.around i) - sN) -
                                        AIn.lN i))))],
                          [])
                    else
                      some
                        (MV.tup
                            [MV.agg
                                [MV.val (Value.int IntKind.i64 (AIn.lN i)), MV.val (Value.int IntKind.i64 sN),
                                  MV.val
                                    (Value.int IntKind.i64
                                      (IntKind.wrap IntKind.i64
                                        (IntKind.wrap IntKind.i64
                                            (IntKind.wrap IntKind.i64 (AIn.base i - AIn.around i) - sN) -
                                          AIn.lN i)))],
                              MV.val (Value.bool false)],
                          [])
                else
                  bif fitsB (AIn.lN i) then
                    some
                      (MV.tup
                          [MV.agg
                              [MV.val (Value.int IntKind.i64 (AIn.lN i)), MV.val (Value.int IntKind.i64 sN),
                                MV.val
                                  (Value.int IntKind.i64
                                    (IntKind.wrap IntKind.i64
                                      (IntKind.wrap IntKind.i64
                                          (IntKind.wrap IntKind.i64 (AIn.base i - AIn.around i) - sN) -
                                        AIn.lN i)))],
                            MV.val
                              (Value.bool
                                (fitsB
                                  (IntKind.wrap IntKind.i64
                                    (IntKind.wrap IntKind.i64 (IntKind.wrap IntKind.i64 (AIn.base i - AIn.around i) - sN) -
                                      AIn.lN i))))],
                        [])
                  else
                    some
                      (MV.tup
                          [MV.agg
                              [MV.val (Value.int IntKind.i64 (AIn.lN i)), MV.val (Value.int IntKind.i64 sN),
                                MV.val
                                  (Value.int IntKind.i64
                                    (IntKind.wrap IntKind.i64
                                      (IntKind.wrap IntKind.i64
                                          (IntKind.wrap IntKind.i64 (AIn.base i - AIn.around i) - sN) -
                                        AIn.lN i)))],
                            MV.val (Value.bool false)],
                        [])
          else
            bif AIn.lA i then
              bif
                  fitsB
                    (IntKind.wrap IntKind.i64
                      (IntKind.wrap IntKind.i64 (IntKind.wrap IntKind.i64 (AIn.base i - AIn.around i) - sN) -
                        AIn.rN i)) then
                some
                  (MV.tup
                      [MV.agg
                          [MV.val
                              (Value.int IntKind.i64
                                (IntKind.wrap IntKind.i64
                                  (IntKind.wrap IntKind.i64 (IntKind.wrap IntKind.i64 (AIn.base i - AIn.around i) - sN) -
                                    AIn.rN i))),
                            MV.val (Value.int IntKind.i64 sN), MV.val (Value.int IntKind.i64 (AIn.rN i))],
                        MV.val (Value.bool (fitsB (AIn.rN i)))],
                    [])
              else
                some
                  (MV.tup
                      [MV.agg
                          [MV.val
                              (Value.int IntKind.i64
                                (IntKind.wrap IntKind.i64
                                  (IntKind.wrap IntKind.i64 (IntKind.wrap IntKind.i64 (AIn.base i - AIn.around i) - sN) -
                                    AIn.rN i))),
                            MV.val (Value.int IntKind.i64 sN), MV.val (Value.int IntKind.i64 (AIn.rN i))],
                        MV.val (Value.bool false)],
                    [])
            else
              bif !AIn.rA i then
                bif AIn.rtl i then
                  bif
                      fitsB
                        (IntKind.wrap IntKind.i64
                          (IntKind.wrap IntKind.i64 (IntKind.wrap IntKind.i64 (AIn.base i - AIn.around i) - sN) -
                            AIn.rN i)) then
                    some
                      (MV.tup
                          [MV.agg
                              [MV.val
                                  (Value.int IntKind.i64
                                    (IntKind.wrap IntKind.i64
                                      (IntKind.wrap IntKind.i64
                                          (IntKind.wrap IntKind.i64 (AIn.base i - AIn.around i) - sN) -
                                        AIn.rN i))),
                                MV.val (Value.int IntKind.i64 sN), MV.val (Value.int IntKind.i64 (AIn.rN i))],
                            MV.val (Value.bool (fitsB (AIn.rN i)))],
                        [])
                  else
                    some
                      (MV.tup
                          [MV.agg
                              [MV.val
                                  (Value.int IntKind.i64
                                    (IntKind.wrap IntKind.i64
                                      (IntKind.wrap IntKind.i64
                                          (IntKind.wrap IntKind.i64 (AIn.base i - AIn.around i) - sN) -
                                        AIn.rN i))),
                                MV.val (Value.int IntKind.i64 sN), MV.val (Value.int IntKind.i64 (AIn.rN i))],
                            MV.val (Value.bool false)],
                        [])
                else
                  bif fitsB (AIn.lN i) then
                    some
                      (MV.tup
                          [MV.agg
                              [MV.val (Value.int IntKind.i64 (AIn.lN i)), MV.val (Value.int IntKind.i64 sN),
                                MV.val
                                  (Value.int IntKind.i64
                                    (IntKind.wrap IntKind.i64
                                      (IntKind.wrap IntKind.i64
                                          (IntKind.wrap IntKind.i64 (AIn.base i - AIn.around i) - sN) -
                                        AIn.lN i)))],
                            MV.val
                              (Value.bool
                                (fitsB
                                  (IntKind.wrap IntKind.i64
                                    (IntKind.wrap IntKind.i64 (IntKind.wrap IntKind.i64 (AIn.base i - AIn.around i) - sN) -
                                      AIn.lN i))))],
                        [])
                  else
                    some
                      (MV.tup
                          [MV.agg
                              [MV.val (Value.int IntKind.i64 (AIn.lN i)), MV.val (Value.int IntKind.i64 sN),
                                MV.val
                                  (Value.int IntKind.i64
                                    (IntKind.wrap IntKind.i64
                                      (IntKind.wrap IntKind.i64
                                          (IntKind.wrap IntKind.i64 (AIn.base i - AIn.around i) - sN) -
                                        AIn.lN i)))],
                            MV.val (Value.bool false)],
                        [])
              else
                bif fitsB (AIn.lN i) then
                  some
                    (MV.tup
                        [MV.agg
                            [MV.val (Value.int IntKind.i64 (AIn.lN i)), MV.val (Value.int IntKind.i64 sN),
                              MV.val
                                (Value.int IntKind.i64
                                  (IntKind.wrap IntKind.i64
                                    (IntKind.wrap IntKind.i64 (IntKind.wrap IntKind.i64 (AIn.base i - AIn.around i) - sN) -
                                      AIn.lN i)))],
                          MV.val
                            (Value.bool
                              (fitsB
                                (IntKind.wrap IntKind.i64
                                  (IntKind.wrap IntKind.i64 (IntKind.wrap IntKind.i64 (AIn.base i - AIn.around i) - sN) -
                                    AIn.lN i))))],
                      [])
                else
                  some
                    (MV.tup
                        [MV.agg
                            [MV.val (Value.int IntKind.i64 (AIn.lN i)), MV.val (Value.int IntKind.i64 sN),
                              MV.val
                                (Value.int IntKind.i64
                                  (IntKind.wrap IntKind.i64
                                    (IntKind.wrap IntKind.i64 (IntKind.wrap IntKind.i64 (AIn.base i - AIn.around i) - sN) -
                                      AIn.lN i)))],
                          MV.val (Value.bool false)],
                      []) := by kernel_rfl
end Go.Proofs.Ytokdpnpldoaepaa.Ac
