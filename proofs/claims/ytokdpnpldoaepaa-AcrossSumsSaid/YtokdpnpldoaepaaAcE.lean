/- What is proved: contracts of the document's answer for the layer across, and that both answer alike. Conditions: none but those in each statement. -/
import Derived.Test.YtokdpnpldoaepaaAcD
namespace Go.Proofs.Ytokdpnpldoaepaa.Ac
open Go Go.RowKit Go.Proofs.Ytokdpnpldoaepaa.X
set_option linter.unusedVariables false
set_option linter.unusedSimpArgs false
def AIn.rout (i : AIn) (lA : Bool) (lN : Int) (rA : Bool) (rN w : Int) : Int × Int × Int :=
  bif lA && rA then (refHalf (i.l1 w), w, w6 (i.l1 w - refHalf (i.l1 w)))
  else bif lA || (!rA && i.rtl) then (w6 (i.l1 w - rN), w, rN)
  else (lN, w, w6 (i.l1 w - lN))
def AIn.rfor1 (i : AIn) (lA : Bool) (lN : Int) (rA : Bool) (rN w : Int) : (Int × Int × Int) × Bool :=
  bif !fitsB w then ((0, 0, 0), false) else
  bif decide (w6 (w6 (w6 (orV lA lN 0 + i.around) + w) + orV rA rN 0) > i.base) then (i.rout false (orV lA lN 0) false (orV rA rN 0) w, fitsB (i.rout false (orV lA lN 0) false (orV rA rN 0) w).1 && fitsB (i.rout false (orV lA lN 0) false (orV rA rN 0) w).2.2)
  else (i.rout lA lN rA rN w, fitsB (i.rout lA lN rA rN w).1 && fitsB (i.rout lA lN rA rN w).2.2)
def AIn.rfor (i : AIn) (sA : Bool) (sN : Int) : (Int × Int × Int) × Bool :=
  bif sA then i.rfor1 false (orV i.lA i.lN 0) false (orV i.rA i.rN 0) (i.l2 (orV i.lA i.lN 0) (orV i.rA i.rN 0)) else i.rfor1 i.lA i.lN i.rA i.rN sN
def F_35 : List MV → Option MV
  | [.agg [.val (.int .i64 base), .val (.bool lA), .val (.int .i64 lN), .val (.bool wA), .val (.int .i64 wN), .val (.bool rA), .val (.int .i64 rN), .val (.int .i64 around), .val (.bool rtl), .val (.int .i64 least), .val (.int .i64 most)], .agg [.val (.bool sA), .val (.int .i64 sN)]] =>
    some (.tup [out3 (AIn.rfor ⟨base, lA, lN, wA, wN, rA, rN, around, rtl, least, most⟩ sA sN).1, B (AIn.rfor ⟨base, lA, lN, wA, wN, rA, rN, around, rtl, least, most⟩ sA sN).2])
  | _ => none
theorem q35 : QOk Try.prog 35 (toQ F_35) := by
  refine Q_of_x (EX_ok _) D1_ok mixed (n := 6) (fun args v h => ?_)
  unfold F_35 at h
  split at h
  · rename_i base lA lN wA wN rA rN around rtl least most sA sN
    injection h with h; subst h
    refine ⟨⟨_, rfl⟩, ⟨_, rfl⟩, ?_⟩
    refine (x35 ⟨base, lA, lN, wA, wN, rA, rN, around, rtl, least, most⟩ sA sN).trans ?_
    dsimp only [AIn.rfor, AIn.rfor1, AIn.rout, AIn.l1, AIn.l2, out3, I, B, w6]
    cases sA
    · simp only [cond_false]
      generalize fitsB sN = f1
      cases f1 <;> simp only [cond_true, cond_false, Bool.not_true, Bool.not_false]
      by_cases h1 : IntKind.i64.wrap (IntKind.i64.wrap (IntKind.i64.wrap (orV lA lN 0 + around) + sN) + orV rA rN 0) > base <;> simp only [h1, decide_true, decide_false, cond_true, cond_false, Bool.false_and, Bool.not_false, Bool.true_and, Bool.false_or] <;> clear h1
      · cases rtl <;> simp only [cond_true, cond_false]
        all_goals generalize fitsB _ = a <;> cases a <;> simp only [cond_true, cond_false, Bool.true_and, Bool.false_and]
      · cases lA <;> cases rA <;> cases rtl <;> simp only [cond_true, cond_false, Bool.true_and, Bool.false_and, Bool.and_true, Bool.and_false, Bool.not_true, Bool.not_false, Bool.true_or, Bool.false_or]
        all_goals generalize fitsB _ = a <;> cases a <;> simp only [cond_true, cond_false, Bool.true_and, Bool.false_and]
    · simp only [cond_true]
      generalize IntKind.i64.wrap (IntKind.i64.wrap (IntKind.i64.wrap (base - around) - orV lA lN 0) - orV rA rN 0) = w
      generalize fitsB w = f1
      cases f1 <;> simp only [cond_true, cond_false, Bool.not_true, Bool.not_false]
      by_cases h1 : IntKind.i64.wrap (IntKind.i64.wrap (IntKind.i64.wrap (orV false (orV lA lN 0) 0 + around) + w) + orV false (orV rA rN 0) 0) > base <;> simp only [h1, decide_true, decide_false, cond_true, cond_false, Bool.false_and, Bool.not_false, Bool.true_and, Bool.false_or] <;> clear h1
      all_goals
        cases rtl <;> simp only [cond_true, cond_false]
        all_goals generalize fitsB _ = a <;> cases a <;> simp only [cond_true, cond_false, Bool.true_and, Bool.false_and]
  · cases h
noncomputable def D2 : Ctx := addQ D1 35 F_35
theorem D2_ok : COk Try.prog D2 := addQ_ok D1_ok q35 (fnOk_of Try.func35 (by kernel_rfl) (by kernel_rfl))
set_option maxRecDepth 100000 in
theorem x16 (i : AIn) : xfun Try.prog (EX Try.prog) D2 6 16 [i.mv] [] fin =
    bif !fitsB (AIn.base i) then
      some
        (MV.tup
            [MV.agg [MV.val (Value.int IntKind.i64 0), MV.val (Value.int IntKind.i64 0), MV.val (Value.int IntKind.i64 0)],
              MV.val (Value.bool false)],
          [])
    else
      bif !fitsB (AIn.around i) then
        some
          (MV.tup
              [MV.agg
                  [MV.val (Value.int IntKind.i64 0), MV.val (Value.int IntKind.i64 0), MV.val (Value.int IntKind.i64 0)],
                MV.val (Value.bool false)],
            [])
      else
        bif !fitsB (orV (AIn.lA i) (AIn.lN i) 0) then
          some
            (MV.tup
                [MV.agg
                    [MV.val (Value.int IntKind.i64 0), MV.val (Value.int IntKind.i64 0), MV.val (Value.int IntKind.i64 0)],
                  MV.val (Value.bool false)],
              [])
        else
          bif !fitsB (orV (AIn.wA i) (AIn.wN i) 0) then
            some
              (MV.tup
                  [MV.agg
                      [MV.val (Value.int IntKind.i64 0), MV.val (Value.int IntKind.i64 0),
                        MV.val (Value.int IntKind.i64 0)],
                    MV.val (Value.bool false)],
                [])
          else
            bif !fitsB (orV (AIn.rA i) (AIn.rN i) 0) then
              some
                (MV.tup
                    [MV.agg
                        [MV.val (Value.int IntKind.i64 0), MV.val (Value.int IntKind.i64 0),
                          MV.val (Value.int IntKind.i64 0)],
                      MV.val (Value.bool false)],
                  [])
            else
              bif
                  Prod.snd
                    (AIn.rfor
                      { base := AIn.base i, lA := AIn.lA i, lN := AIn.lN i, wA := AIn.wA i, wN := AIn.wN i, rA := AIn.rA i,
                        rN := AIn.rN i, around := AIn.around i, rtl := AIn.rtl i, least := AIn.least i, most := AIn.most i }
                      (AIn.wA i) (AIn.wN i)) then
                bif
                    decide
                      (Prod.fst
                          (Prod.snd
                            (Prod.fst
                              (AIn.rfor
                                { base := AIn.base i, lA := AIn.lA i, lN := AIn.lN i, wA := AIn.wA i, wN := AIn.wN i,
                                  rA := AIn.rA i, rN := AIn.rN i, around := AIn.around i, rtl := AIn.rtl i,
                                  least := AIn.least i, most := AIn.most i }
                                (AIn.wA i) (AIn.wN i)))) >
                        AIn.most i) then
                  bif
                      Prod.snd
                        (AIn.rfor
                          { base := AIn.base i, lA := AIn.lA i, lN := AIn.lN i, wA := AIn.wA i, wN := AIn.wN i,
                            rA := AIn.rA i, rN := AIn.rN i, around := AIn.around i, rtl := AIn.rtl i, least := AIn.least i,
                            most := AIn.most i }
                          false (AIn.most i)) then
                    bif
                        decide
                          (Prod.fst
                              (Prod.snd
                                (Prod.fst
                                  (AIn.rfor
                                    { base := AIn.base i, lA := AIn.lA i, lN := AIn.lN i, wA := AIn.wA i, wN := AIn.wN i,
                                      rA := AIn.rA i, rN := AIn.rN i, around := AIn.around i, rtl := AIn.rtl i,
                                      least := AIn.least i, most := AIn.most i }
                                    false (AIn.most i)))) <
                            AIn.least i) then
                      bif
                          !Prod.snd
                              (AIn.rfor
                                { base := AIn.base i, lA := AIn.lA i, lN := AIn.lN i, wA := AIn.wA i, wN := AIn.wN i,
                                  rA := AIn.rA i, rN := AIn.rN i, around := AIn.around i, rtl := AIn.rtl i,
                                  least := AIn.least i, most := AIn.most i }
                                false (AIn.least i)) then
                        some
                          (MV.tup
                              [MV.agg
                                  [MV.val (Value.int IntKind.i64 0), MV.val (Value.int IntKind.i64 0),
                                    MV.val (Value.int IntKind.i64 0)],
                                MV.val (Value.bool false)],
                            [])
                      else
                        some
                          (MV.tup
                              [MV.agg
                                  [MV.val
                                      (Value.int IntKind.i64
                                        (Prod.fst
                                          (Prod.fst
                                            (AIn.rfor
                                              { base := AIn.base i, lA := AIn.lA i, lN := AIn.lN i, wA := AIn.wA i,
                                                wN := AIn.wN i, rA := AIn.rA i, rN := AIn.rN i, around := AIn.around i,
                                                rtl := AIn.rtl i, least := AIn.least i, most := AIn.most i }
                                              false (AIn.least i))))),
                                    MV.val
                                      (Value.int IntKind.i64
                                        (Prod.fst
                                          (Prod.snd
                                            (Prod.fst
                                              (AIn.rfor
                                                { base := AIn.base i, lA := AIn.lA i, lN := AIn.lN i, wA := AIn.wA i,
                                                  wN := AIn.wN i, rA := AIn.rA i, rN := AIn.rN i, around := AIn.around i,
                                                  rtl := AIn.rtl i, least := AIn.least i, most := AIn.most i }
                                                false (AIn.least i)))))),
                                    MV.val
                                      (Value.int IntKind.i64
                                        (Prod.snd
                                          (Prod.snd
                                            (Prod.fst
                                              (AIn.rfor
                                                { base := AIn.base i, lA := AIn.lA i, lN := AIn.lN i, wA := AIn.wA i,
                                                  wN := AIn.wN i, rA := AIn.rA i, rN := AIn.rN i, around := AIn.around i,
                                                  rtl := AIn.rtl i, least := AIn.least i, most := AIn.most i }
                                                false (AIn.least i))))))],
                                MV.val (Value.bool true)],
                            [])
                    else
                      bif
                          !Prod.snd
                              (AIn.rfor
                                { base := AIn.base i, lA := AIn.lA i, lN := AIn.lN i, wA := AIn.wA i, wN := AIn.wN i,
                                  rA := AIn.rA i, rN := AIn.rN i, around := AIn.around i, rtl := AIn.rtl i,
                                  least := AIn.least i, most := AIn.most i }
                                false (AIn.most i)) then
                        some
                          (MV.tup
                              [MV.agg
                                  [MV.val (Value.int IntKind.i64 0), MV.val (Value.int IntKind.i64 0),
                                    MV.val (Value.int IntKind.i64 0)],
                                MV.val (Value.bool false)],
                            [])
                      else
                        some
                          (MV.tup
                              [MV.agg
                                  [MV.val
                                      (Value.int IntKind.i64
                                        (Prod.fst
                                          (Prod.fst
                                            (AIn.rfor
                                              { base := AIn.base i, lA := AIn.lA i, lN := AIn.lN i, wA := AIn.wA i,
                                                wN := AIn.wN i, rA := AIn.rA i, rN := AIn.rN i, around := AIn.around i,
                                                rtl := AIn.rtl i, least := AIn.least i, most := AIn.most i }
                                              false (AIn.most i))))),
                                    MV.val
                                      (Value.int IntKind.i64
                                        (Prod.fst
                                          (Prod.snd
                                            (Prod.fst
                                              (AIn.rfor
                                                { base := AIn.base i, lA := AIn.lA i, lN := AIn.lN i, wA := AIn.wA i,
                                                  wN := AIn.wN i, rA := AIn.rA i, rN := AIn.rN i, around := AIn.around i,
                                                  rtl := AIn.rtl i, least := AIn.least i, most := AIn.most i }
                                                false (AIn.most i)))))),
                                    MV.val
                                      (Value.int IntKind.i64
                                        (Prod.snd
                                          (Prod.snd
                                            (Prod.fst
                                              (AIn.rfor
                                                { base := AIn.base i, lA := AIn.lA i, lN := AIn.lN i, wA := AIn.wA i,
                                                  wN := AIn.wN i, rA := AIn.rA i, rN := AIn.rN i, around := AIn.around i,
                                                  rtl := AIn.rtl i, least := AIn.least i, most := AIn.most i }
                                                false (AIn.most i))))))],
                                MV.val (Value.bool true)],
                            [])
                  else
                    bif
                        !Prod.snd
                            (AIn.rfor
                              { base := AIn.base i, lA := AIn.lA i, lN := AIn.lN i, wA := AIn.wA i, wN := AIn.wN i,
                                rA := AIn.rA i, rN := AIn.rN i, around := AIn.around i, rtl := AIn.rtl i,
                                least := AIn.least i, most := AIn.most i }
                              false (AIn.most i)) then
                      some
                        (MV.tup
                            [MV.agg
                                [MV.val (Value.int IntKind.i64 0), MV.val (Value.int IntKind.i64 0),
                                  MV.val (Value.int IntKind.i64 0)],
                              MV.val (Value.bool false)],
                          [])
                    else
                      some
                        (MV.tup
                            [MV.agg
                                [MV.val
                                    (Value.int IntKind.i64
                                      (Prod.fst
                                        (Prod.fst
                                          (AIn.rfor
                                            { base := AIn.base i, lA := AIn.lA i, lN := AIn.lN i, wA := AIn.wA i,
                                              wN := AIn.wN i, rA := AIn.rA i, rN := AIn.rN i, around := AIn.around i,
                                              rtl := AIn.rtl i, least := AIn.least i, most := AIn.most i }
                                            false (AIn.most i))))),
                                  MV.val
                                    (Value.int IntKind.i64
                                      (Prod.fst
                                        (Prod.snd
                                          (Prod.fst
                                            (AIn.rfor
                                              { base := AIn.base i, lA := AIn.lA i, lN := AIn.lN i, wA := AIn.wA i,
                                                wN := AIn.wN i, rA := AIn.rA i, rN := AIn.rN i, around := AIn.around i,
                                                rtl := AIn.rtl i, least := AIn.least i, most := AIn.most i }
                                              false (AIn.most i)))))),
                                  MV.val
                                    (Value.int IntKind.i64
                                      (Prod.snd
                                        (Prod.snd
                                          (Prod.fst
                                            (AIn.rfor
                                              { base := AIn.base i, lA := AIn.lA i, lN := AIn.lN i, wA := AIn.wA i,
                                                wN := AIn.wN i, rA := AIn.rA i, rN := AIn.rN i, around := AIn.around i,
                                                rtl := AIn.rtl i, least := AIn.least i, most := AIn.most i }
                                              false (AIn.most i))))))],
                              MV.val (Value.bool true)],
                          [])
                else
                  bif
                      Prod.snd
                        (AIn.rfor
                          { base := AIn.base i, lA := AIn.lA i, lN := AIn.lN i, wA := AIn.wA i, wN := AIn.wN i,
                            rA := AIn.rA i, rN := AIn.rN i, around := AIn.around i, rtl := AIn.rtl i, least := AIn.least i,
                            most := AIn.most i }
                          (AIn.wA i) (AIn.wN i)) then
                    bif
                        decide
                          (Prod.fst
                              (Prod.snd
                                (Prod.fst
                                  (AIn.rfor
                                    { base := AIn.base i, lA := AIn.lA i, lN := AIn.lN i, wA := AIn.wA i, wN := AIn.wN i,
                                      rA := AIn.rA i, rN := AIn.rN i, around := AIn.around i, rtl := AIn.rtl i,
                                      least := AIn.least i, most := AIn.most i }
                                    (AIn.wA i) (AIn.wN i)))) <
                            AIn.least i) then
                      bif
                          !Prod.snd
                              (AIn.rfor
                                { base := AIn.base i, lA := AIn.lA i, lN := AIn.lN i, wA := AIn.wA i, wN := AIn.wN i,
                                  rA := AIn.rA i, rN := AIn.rN i, around := AIn.around i, rtl := AIn.rtl i,
                                  least := AIn.least i, most := AIn.most i }
                                false (AIn.least i)) then
                        some
                          (MV.tup
                              [MV.agg
                                  [MV.val (Value.int IntKind.i64 0), MV.val (Value.int IntKind.i64 0),
                                    MV.val (Value.int IntKind.i64 0)],
                                MV.val (Value.bool false)],
                            [])
                      else
                        some
                          (MV.tup
                              [MV.agg
                                  [MV.val
                                      (Value.int IntKind.i64
                                        (Prod.fst
                                          (Prod.fst
                                            (AIn.rfor
                                              { base := AIn.base i, lA := AIn.lA i, lN := AIn.lN i, wA := AIn.wA i,
                                                wN := AIn.wN i, rA := AIn.rA i, rN := AIn.rN i, around := AIn.around i,
                                                rtl := AIn.rtl i, least := AIn.least i, most := AIn.most i }
                                              false (AIn.least i))))),
                                    MV.val
                                      (Value.int IntKind.i64
                                        (Prod.fst
                                          (Prod.snd
                                            (Prod.fst
                                              (AIn.rfor
                                                { base := AIn.base i, lA := AIn.lA i, lN := AIn.lN i, wA := AIn.wA i,
                                                  wN := AIn.wN i, rA := AIn.rA i, rN := AIn.rN i, around := AIn.around i,
                                                  rtl := AIn.rtl i, least := AIn.least i, most := AIn.most i }
                                                false (AIn.least i)))))),
                                    MV.val
                                      (Value.int IntKind.i64
                                        (Prod.snd
                                          (Prod.snd
                                            (Prod.fst
                                              (AIn.rfor
                                                { base := AIn.base i, lA := AIn.lA i, lN := AIn.lN i, wA := AIn.wA i,
                                                  wN := AIn.wN i, rA := AIn.rA i, rN := AIn.rN i, around := AIn.around i,
                                                  rtl := AIn.rtl i, least := AIn.least i, most := AIn.most i }
                                                false (AIn.least i))))))],
                                MV.val (Value.bool true)],
                            [])
                    else
                      bif
                          !Prod.snd
                              (AIn.rfor
                                { base := AIn.base i, lA := AIn.lA i, lN := AIn.lN i, wA := AIn.wA i, wN := AIn.wN i,
                                  rA := AIn.rA i, rN := AIn.rN i, around := AIn.around i, rtl := AIn.rtl i,
                                  least := AIn.least i, most := AIn.most i }
                                (AIn.wA i) (AIn.wN i)) then
                        some
                          (MV.tup
                              [MV.agg
                                  [MV.val (Value.int IntKind.i64 0), MV.val (Value.int IntKind.i64 0),
                                    MV.val (Value.int IntKind.i64 0)],
                                MV.val (Value.bool false)],
                            [])
                      else
                        some
                          (MV.tup
                              [MV.agg
                                  [MV.val
                                      (Value.int IntKind.i64
                                        (Prod.fst
                                          (Prod.fst
                                            (AIn.rfor
                                              { base := AIn.base i, lA := AIn.lA i, lN := AIn.lN i, wA := AIn.wA i,
                                                wN := AIn.wN i, rA := AIn.rA i, rN := AIn.rN i, around := AIn.around i,
                                                rtl := AIn.rtl i, least := AIn.least i, most := AIn.most i }
                                              (AIn.wA i) (AIn.wN i))))),
                                    MV.val
                                      (Value.int IntKind.i64
                                        (Prod.fst
                                          (Prod.snd
                                            (Prod.fst
                                              (AIn.rfor
                                                { base := AIn.base i, lA := AIn.lA i, lN := AIn.lN i, wA := AIn.wA i,
                                                  wN := AIn.wN i, rA := AIn.rA i, rN := AIn.rN i, around := AIn.around i,
                                                  rtl := AIn.rtl i, least := AIn.least i, most := AIn.most i }
                                                (AIn.wA i) (AIn.wN i)))))),
                                    MV.val
                                      (Value.int IntKind.i64
                                        (Prod.snd
                                          (Prod.snd
                                            (Prod.fst
                                              (AIn.rfor
                                                { base := AIn.base i, lA := AIn.lA i, lN := AIn.lN i, wA := AIn.wA i,
                                                  wN := AIn.wN i, rA := AIn.rA i, rN := AIn.rN i, around := AIn.around i,
                                                  rtl := AIn.rtl i, least := AIn.least i, most := AIn.most i }
                                                (AIn.wA i) (AIn.wN i))))))],
                                MV.val (Value.bool true)],
                            [])
                  else
                    bif
                        !Prod.snd
                            (AIn.rfor
                              { base := AIn.base i, lA := AIn.lA i, lN := AIn.lN i, wA := AIn.wA i, wN := AIn.wN i,
                                rA := AIn.rA i, rN := AIn.rN i, around := AIn.around i, rtl := AIn.rtl i,
                                least := AIn.least i, most := AIn.most i }
                              (AIn.wA i) (AIn.wN i)) then
                      some
                        (MV.tup
                            [MV.agg
                                [MV.val (Value.int IntKind.i64 0), MV.val (Value.int IntKind.i64 0),
                                  MV.val (Value.int IntKind.i64 0)],
                              MV.val (Value.bool false)],
                          [])
                    else
                      some
                        (MV.tup
                            [MV.agg
                                [MV.val
                                    (Value.int IntKind.i64
                                      (Prod.fst
                                        (Prod.fst
                                          (AIn.rfor
                                            { base := AIn.base i, lA := AIn.lA i, lN := AIn.lN i, wA := AIn.wA i,
                                              wN := AIn.wN i, rA := AIn.rA i, rN := AIn.rN i, around := AIn.around i,
                                              rtl := AIn.rtl i, least := AIn.least i, most := AIn.most i }
                                            (AIn.wA i) (AIn.wN i))))),
                                  MV.val
                                    (Value.int IntKind.i64
                                      (Prod.fst
                                        (Prod.snd
                                          (Prod.fst
                                            (AIn.rfor
                                              { base := AIn.base i, lA := AIn.lA i, lN := AIn.lN i, wA := AIn.wA i,
                                                wN := AIn.wN i, rA := AIn.rA i, rN := AIn.rN i, around := AIn.around i,
                                                rtl := AIn.rtl i, least := AIn.least i, most := AIn.most i }
                                              (AIn.wA i) (AIn.wN i)))))),
                                  MV.val
                                    (Value.int IntKind.i64
                                      (Prod.snd
                                        (Prod.snd
                                          (Prod.fst
                                            (AIn.rfor
                                              { base := AIn.base i, lA := AIn.lA i, lN := AIn.lN i, wA := AIn.wA i,
                                                wN := AIn.wN i, rA := AIn.rA i, rN := AIn.rN i, around := AIn.around i,
                                                rtl := AIn.rtl i, least := AIn.least i, most := AIn.most i }
                                              (AIn.wA i) (AIn.wN i))))))],
                              MV.val (Value.bool true)],
                          [])
              else
                bif
                    Prod.snd
                      (AIn.rfor
                        { base := AIn.base i, lA := AIn.lA i, lN := AIn.lN i, wA := AIn.wA i, wN := AIn.wN i,
                          rA := AIn.rA i, rN := AIn.rN i, around := AIn.around i, rtl := AIn.rtl i, least := AIn.least i,
                          most := AIn.most i }
                        (AIn.wA i) (AIn.wN i)) then
                  bif
                      decide
                        (Prod.fst
                            (Prod.snd
                              (Prod.fst
                                (AIn.rfor
                                  { base := AIn.base i, lA := AIn.lA i, lN := AIn.lN i, wA := AIn.wA i, wN := AIn.wN i,
                                    rA := AIn.rA i, rN := AIn.rN i, around := AIn.around i, rtl := AIn.rtl i,
                                    least := AIn.least i, most := AIn.most i }
                                  (AIn.wA i) (AIn.wN i)))) <
                          AIn.least i) then
                    bif
                        !Prod.snd
                            (AIn.rfor
                              { base := AIn.base i, lA := AIn.lA i, lN := AIn.lN i, wA := AIn.wA i, wN := AIn.wN i,
                                rA := AIn.rA i, rN := AIn.rN i, around := AIn.around i, rtl := AIn.rtl i,
                                least := AIn.least i, most := AIn.most i }
                              false (AIn.least i)) then
                      some
                        (MV.tup
                            [MV.agg
                                [MV.val (Value.int IntKind.i64 0), MV.val (Value.int IntKind.i64 0),
                                  MV.val (Value.int IntKind.i64 0)],
                              MV.val (Value.bool false)],
                          [])
                    else
                      some
                        (MV.tup
                            [MV.agg
                                [MV.val
                                    (Value.int IntKind.i64
                                      (Prod.fst
                                        (Prod.fst
                                          (AIn.rfor
                                            { base := AIn.base i, lA := AIn.lA i, lN := AIn.lN i, wA := AIn.wA i,
                                              wN := AIn.wN i, rA := AIn.rA i, rN := AIn.rN i, around := AIn.around i,
                                              rtl := AIn.rtl i, least := AIn.least i, most := AIn.most i }
                                            false (AIn.least i))))),
                                  MV.val
                                    (Value.int IntKind.i64
                                      (Prod.fst
                                        (Prod.snd
                                          (Prod.fst
                                            (AIn.rfor
                                              { base := AIn.base i, lA := AIn.lA i, lN := AIn.lN i, wA := AIn.wA i,
                                                wN := AIn.wN i, rA := AIn.rA i, rN := AIn.rN i, around := AIn.around i,
                                                rtl := AIn.rtl i, least := AIn.least i, most := AIn.most i }
                                              false (AIn.least i)))))),
                                  MV.val
                                    (Value.int IntKind.i64
                                      (Prod.snd
                                        (Prod.snd
                                          (Prod.fst
                                            (AIn.rfor
                                              { base := AIn.base i, lA := AIn.lA i, lN := AIn.lN i, wA := AIn.wA i,
                                                wN := AIn.wN i, rA := AIn.rA i, rN := AIn.rN i, around := AIn.around i,
                                                rtl := AIn.rtl i, least := AIn.least i, most := AIn.most i }
                                              false (AIn.least i))))))],
                              MV.val (Value.bool true)],
                          [])
                  else
                    bif
                        !Prod.snd
                            (AIn.rfor
                              { base := AIn.base i, lA := AIn.lA i, lN := AIn.lN i, wA := AIn.wA i, wN := AIn.wN i,
                                rA := AIn.rA i, rN := AIn.rN i, around := AIn.around i, rtl := AIn.rtl i,
                                least := AIn.least i, most := AIn.most i }
                              (AIn.wA i) (AIn.wN i)) then
                      some
                        (MV.tup
                            [MV.agg
                                [MV.val (Value.int IntKind.i64 0), MV.val (Value.int IntKind.i64 0),
                                  MV.val (Value.int IntKind.i64 0)],
                              MV.val (Value.bool false)],
                          [])
                    else
                      some
                        (MV.tup
                            [MV.agg
                                [MV.val
                                    (Value.int IntKind.i64
                                      (Prod.fst
                                        (Prod.fst
                                          (AIn.rfor
                                            { base := AIn.base i, lA := AIn.lA i, lN := AIn.lN i, wA := AIn.wA i,
                                              wN := AIn.wN i, rA := AIn.rA i, rN := AIn.rN i, around := AIn.around i,
                                              rtl := AIn.rtl i, least := AIn.least i, most := AIn.most i }
                                            (AIn.wA i) (AIn.wN i))))),
                                  MV.val
                                    (Value.int IntKind.i64
                                      (Prod.fst
                                        (Prod.snd
                                          (Prod.fst
                                            (AIn.rfor
                                              { base := AIn.base i, lA := AIn.lA i, lN := AIn.lN i, wA := AIn.wA i,
                                                wN := AIn.wN i, rA := AIn.rA i, rN := AIn.rN i, around := AIn.around i,
                                                rtl := AIn.rtl i, least := AIn.least i, most := AIn.most i }
                                              (AIn.wA i) (AIn.wN i)))))),
                                  MV.val
                                    (Value.int IntKind.i64
                                      (Prod.snd
                                        (Prod.snd
                                          (Prod.fst
                                            (AIn.rfor
                                              { base := AIn.base i, lA := AIn.lA i, lN := AIn.lN i, wA := AIn.wA i,
                                                wN := AIn.wN i, rA := AIn.rA i, rN := AIn.rN i, around := AIn.around i,
                                                rtl := AIn.rtl i, least := AIn.least i, most := AIn.most i }
                                              (AIn.wA i) (AIn.wN i))))))],
                              MV.val (Value.bool true)],
                          [])
                else
                  bif
                      !Prod.snd
                          (AIn.rfor
                            { base := AIn.base i, lA := AIn.lA i, lN := AIn.lN i, wA := AIn.wA i, wN := AIn.wN i,
                              rA := AIn.rA i, rN := AIn.rN i, around := AIn.around i, rtl := AIn.rtl i,
                              least := AIn.least i, most := AIn.most i }
                            (AIn.wA i) (AIn.wN i)) then
                    some
                      (MV.tup
                          [MV.agg
                              [MV.val (Value.int IntKind.i64 0), MV.val (Value.int IntKind.i64 0),
                                MV.val (Value.int IntKind.i64 0)],
                            MV.val (Value.bool false)],
                        [])
                  else
                    some
                      (MV.tup
                          [MV.agg
                              [MV.val
                                  (Value.int IntKind.i64
                                    (Prod.fst
                                      (Prod.fst
                                        (AIn.rfor
                                          { base := AIn.base i, lA := AIn.lA i, lN := AIn.lN i, wA := AIn.wA i,
                                            wN := AIn.wN i, rA := AIn.rA i, rN := AIn.rN i, around := AIn.around i,
                                            rtl := AIn.rtl i, least := AIn.least i, most := AIn.most i }
                                          (AIn.wA i) (AIn.wN i))))),
                                MV.val
                                  (Value.int IntKind.i64
                                    (Prod.fst
                                      (Prod.snd
                                        (Prod.fst
                                          (AIn.rfor
                                            { base := AIn.base i, lA := AIn.lA i, lN := AIn.lN i, wA := AIn.wA i,
                                              wN := AIn.wN i, rA := AIn.rA i, rN := AIn.rN i, around := AIn.around i,
                                              rtl := AIn.rtl i, least := AIn.least i, most := AIn.most i }
                                            (AIn.wA i) (AIn.wN i)))))),
                                MV.val
                                  (Value.int IntKind.i64
                                    (Prod.snd
                                      (Prod.snd
                                        (Prod.fst
                                          (AIn.rfor
                                            { base := AIn.base i, lA := AIn.lA i, lN := AIn.lN i, wA := AIn.wA i,
                                              wN := AIn.wN i, rA := AIn.rA i, rN := AIn.rN i, around := AIn.around i,
                                              rtl := AIn.rtl i, least := AIn.least i, most := AIn.most i }
                                            (AIn.wA i) (AIn.wN i))))))],
                            MV.val (Value.bool true)],
                        []) := by kernel_rfl
end Go.Proofs.Ytokdpnpldoaepaa.Ac
