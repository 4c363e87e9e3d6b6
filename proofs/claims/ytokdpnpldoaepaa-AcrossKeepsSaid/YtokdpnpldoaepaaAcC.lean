/- What is proved: contracts of the functions of the layer across. Conditions: none but those in each statement. -/
import Derived.Test.YtokdpnpldoaepaaAcB
namespace Go.Proofs.Ytokdpnpldoaepaa.Ac
open Go Go.RowKit Go.Proofs.Ytokdpnpldoaepaa.X
set_option linter.unusedVariables false
noncomputable def C2 : Ctx := addI C1 45 (inlG Try.prog (EX Try.prog) C1 6 45)
theorem C2_ok : COk Try.prog C2 := addI_ok C1_ok (inl_ok (EX_ok _) C1_ok mixed 6 _) (fnOk_of Try.func45 (by kernel_rfl) (by kernel_rfl))
structure AIn where
  base : Int
  lA : Bool
  lN : Int
  wA : Bool
  wN : Int
  rA : Bool
  rN : Int
  around : Int
  rtl : Bool
  least : Int
  most : Int
abbrev w6 (n : Int) : Int := IntKind.i64.wrap n
abbrev AIn.mv (i : AIn) : MV := .agg [I i.base, B i.lA, I i.lN, B i.wA, I i.wN, B i.rA, I i.rN, I i.around, B i.rtl, I i.least, I i.most]
def AIn.l1 (i : AIn) (w : Int) : Int := w6 (w6 (i.base - i.around) - w)
def AIn.l2 (i : AIn) (a b : Int) : Int := w6 (w6 (w6 (i.base - i.around) - a) - b)
def AIn.l3 (i : AIn) (w a b : Int) : Int := w6 (w6 (w6 (w6 (i.base - i.around) - w) - a) - b)
/-- Both margins, for a width. -/
def AIn.marg (i : AIn) (w : Int) : Int × Int :=
  bif !decide (i.l3 w (orV i.lA i.lN 0) (orV i.rA i.rN 0) < 0) && (i.lA && i.rA) then (i.l1 w / 2, w6 (i.l1 w - i.l1 w / 2))
  else bif (!decide (i.l3 w (orV i.lA i.lN 0) (orV i.rA i.rN 0) < 0) && i.lA) || (i.rtl && (decide (i.l3 w (orV i.lA i.lN 0) (orV i.rA i.rN 0) < 0) || !i.rA)) then (w6 (i.l1 w - orV i.rA i.rN 0), orV i.rA i.rN 0)
  else (orV i.lA i.lN 0, w6 (i.l1 w - orV i.lA i.lN 0))
def F_marg : List MV → Option MV
  | [.agg [.val (.int .i64 base), .val (.bool lA), .val (.int .i64 lN), .val (.bool wA), .val (.int .i64 wN), .val (.bool rA), .val (.int .i64 rN), .val (.int .i64 around), .val (.bool rtl), .val (.int .i64 least), .val (.int .i64 most)], .val (.int .i64 w)] =>
    some (.tup [I (AIn.marg ⟨base, lA, lN, wA, wN, rA, rN, around, rtl, least, most⟩ w).1, I (AIn.marg ⟨base, lA, lN, wA, wN, rA, rN, around, rtl, least, most⟩ w).2])
  | _ => none
set_option maxRecDepth 100000 in
theorem x46 (i : AIn) (w : Int) : xfun Try.prog (EX Try.prog) C2 6 46 [i.mv, I w] [] fin =
    bif
        !decide
            (IntKind.wrap IntKind.i64
                (IntKind.wrap IntKind.i64
                    (IntKind.wrap IntKind.i64 (IntKind.wrap IntKind.i64 (AIn.base i - AIn.around i) - w) -
                      orV (AIn.lA i) (AIn.lN i) 0) -
                  orV (AIn.rA i) (AIn.rN i) 0) <
              0) then
      bif AIn.lA i then
        bif AIn.rA i then
          some
            (MV.tup
                [MV.val
                    (Value.int IntKind.i64
                      (IntKind.wrap IntKind.i64 (IntKind.wrap IntKind.i64 (AIn.base i - AIn.around i) - w) / 2)),
                  MV.val
                    (Value.int IntKind.i64
                      (IntKind.wrap IntKind.i64
                        (IntKind.wrap IntKind.i64 (IntKind.wrap IntKind.i64 (AIn.base i - AIn.around i) - w) -
                          IntKind.wrap IntKind.i64 (IntKind.wrap IntKind.i64 (AIn.base i - AIn.around i) - w) / 2)))],
              [])
        else
          bif
              !decide
                  (IntKind.wrap IntKind.i64
                      (IntKind.wrap IntKind.i64
                          (IntKind.wrap IntKind.i64 (IntKind.wrap IntKind.i64 (AIn.base i - AIn.around i) - w) -
                            orV (AIn.lA i) (AIn.lN i) 0) -
                        orV (AIn.rA i) (AIn.rN i) 0) <
                    0) then
            bif AIn.lA i then
              some
                (MV.tup
                    [MV.val
                        (Value.int IntKind.i64
                          (IntKind.wrap IntKind.i64
                            (IntKind.wrap IntKind.i64 (IntKind.wrap IntKind.i64 (AIn.base i - AIn.around i) - w) -
                              orV (AIn.rA i) (AIn.rN i) 0))),
                      MV.val (Value.int IntKind.i64 (orV (AIn.rA i) (AIn.rN i) 0))],
                  [])
            else
              bif AIn.rtl i then
                bif
                    decide
                      (IntKind.wrap IntKind.i64
                          (IntKind.wrap IntKind.i64
                              (IntKind.wrap IntKind.i64 (IntKind.wrap IntKind.i64 (AIn.base i - AIn.around i) - w) -
                                orV (AIn.lA i) (AIn.lN i) 0) -
                            orV (AIn.rA i) (AIn.rN i) 0) <
                        0) then
                  some
                    (MV.tup
                        [MV.val
                            (Value.int IntKind.i64
                              (IntKind.wrap IntKind.i64
                                (IntKind.wrap IntKind.i64 (IntKind.wrap IntKind.i64 (AIn.base i - AIn.around i) - w) -
                                  orV (AIn.rA i) (AIn.rN i) 0))),
                          MV.val (Value.int IntKind.i64 (orV (AIn.rA i) (AIn.rN i) 0))],
                      [])
                else
                  bif !AIn.rA i then
                    some
                      (MV.tup
                          [MV.val
                              (Value.int IntKind.i64
                                (IntKind.wrap IntKind.i64
                                  (IntKind.wrap IntKind.i64 (IntKind.wrap IntKind.i64 (AIn.base i - AIn.around i) - w) -
                                    orV (AIn.rA i) (AIn.rN i) 0))),
                            MV.val (Value.int IntKind.i64 (orV (AIn.rA i) (AIn.rN i) 0))],
                        [])
                  else
                    some
                      (MV.tup
                          [MV.val (Value.int IntKind.i64 (orV (AIn.lA i) (AIn.lN i) 0)),
                            MV.val
                              (Value.int IntKind.i64
                                (IntKind.wrap IntKind.i64
                                  (IntKind.wrap IntKind.i64 (IntKind.wrap IntKind.i64 (AIn.base i - AIn.around i) - w) -
                                    orV (AIn.lA i) (AIn.lN i) 0)))],
                        [])
              else
                some
                  (MV.tup
                      [MV.val (Value.int IntKind.i64 (orV (AIn.lA i) (AIn.lN i) 0)),
                        MV.val
                          (Value.int IntKind.i64
                            (IntKind.wrap IntKind.i64
                              (IntKind.wrap IntKind.i64 (IntKind.wrap IntKind.i64 (AIn.base i - AIn.around i) - w) -
                                orV (AIn.lA i) (AIn.lN i) 0)))],
                    [])
          else
            bif AIn.rtl i then
              bif
                  decide
                    (IntKind.wrap IntKind.i64
                        (IntKind.wrap IntKind.i64
                            (IntKind.wrap IntKind.i64 (IntKind.wrap IntKind.i64 (AIn.base i - AIn.around i) - w) -
                              orV (AIn.lA i) (AIn.lN i) 0) -
                          orV (AIn.rA i) (AIn.rN i) 0) <
                      0) then
                some
                  (MV.tup
                      [MV.val
                          (Value.int IntKind.i64
                            (IntKind.wrap IntKind.i64
                              (IntKind.wrap IntKind.i64 (IntKind.wrap IntKind.i64 (AIn.base i - AIn.around i) - w) -
                                orV (AIn.rA i) (AIn.rN i) 0))),
                        MV.val (Value.int IntKind.i64 (orV (AIn.rA i) (AIn.rN i) 0))],
                    [])
              else
                bif !AIn.rA i then
                  some
                    (MV.tup
                        [MV.val
                            (Value.int IntKind.i64
                              (IntKind.wrap IntKind.i64
                                (IntKind.wrap IntKind.i64 (IntKind.wrap IntKind.i64 (AIn.base i - AIn.around i) - w) -
                                  orV (AIn.rA i) (AIn.rN i) 0))),
                          MV.val (Value.int IntKind.i64 (orV (AIn.rA i) (AIn.rN i) 0))],
                      [])
                else
                  some
                    (MV.tup
                        [MV.val (Value.int IntKind.i64 (orV (AIn.lA i) (AIn.lN i) 0)),
                          MV.val
                            (Value.int IntKind.i64
                              (IntKind.wrap IntKind.i64
                                (IntKind.wrap IntKind.i64 (IntKind.wrap IntKind.i64 (AIn.base i - AIn.around i) - w) -
                                  orV (AIn.lA i) (AIn.lN i) 0)))],
                      [])
            else
              some
                (MV.tup
                    [MV.val (Value.int IntKind.i64 (orV (AIn.lA i) (AIn.lN i) 0)),
                      MV.val
                        (Value.int IntKind.i64
                          (IntKind.wrap IntKind.i64
                            (IntKind.wrap IntKind.i64 (IntKind.wrap IntKind.i64 (AIn.base i - AIn.around i) - w) -
                              orV (AIn.lA i) (AIn.lN i) 0)))],
                  [])
      else
        bif
            !decide
                (IntKind.wrap IntKind.i64
                    (IntKind.wrap IntKind.i64
                        (IntKind.wrap IntKind.i64 (IntKind.wrap IntKind.i64 (AIn.base i - AIn.around i) - w) -
                          orV (AIn.lA i) (AIn.lN i) 0) -
                      orV (AIn.rA i) (AIn.rN i) 0) <
                  0) then
          bif AIn.lA i then
            some
              (MV.tup
                  [MV.val
                      (Value.int IntKind.i64
                        (IntKind.wrap IntKind.i64
                          (IntKind.wrap IntKind.i64 (IntKind.wrap IntKind.i64 (AIn.base i - AIn.around i) - w) -
                            orV (AIn.rA i) (AIn.rN i) 0))),
                    MV.val (Value.int IntKind.i64 (orV (AIn.rA i) (AIn.rN i) 0))],
                [])
          else
            bif AIn.rtl i then
              bif
                  decide
                    (IntKind.wrap IntKind.i64
                        (IntKind.wrap IntKind.i64
                            (IntKind.wrap IntKind.i64 (IntKind.wrap IntKind.i64 (AIn.base i - AIn.around i) - w) -
                              orV (AIn.lA i) (AIn.lN i) 0) -
                          orV (AIn.rA i) (AIn.rN i) 0) <
                      0) then
                some
                  (MV.tup
                      [MV.val
                          (Value.int IntKind.i64
                            (IntKind.wrap IntKind.i64
                              (IntKind.wrap IntKind.i64 (IntKind.wrap IntKind.i64 (AIn.base i - AIn.around i) - w) -
                                orV (AIn.rA i) (AIn.rN i) 0))),
                        MV.val (Value.int IntKind.i64 (orV (AIn.rA i) (AIn.rN i) 0))],
                    [])
              else
                bif !AIn.rA i then
                  some
                    (MV.tup
                        [MV.val
                            (Value.int IntKind.i64
                              (IntKind.wrap IntKind.i64
                                (IntKind.wrap IntKind.i64 (IntKind.wrap IntKind.i64 (AIn.base i - AIn.around i) - w) -
                                  orV (AIn.rA i) (AIn.rN i) 0))),
                          MV.val (Value.int IntKind.i64 (orV (AIn.rA i) (AIn.rN i) 0))],
                      [])
                else
                  some
                    (MV.tup
                        [MV.val (Value.int IntKind.i64 (orV (AIn.lA i) (AIn.lN i) 0)),
                          MV.val
                            (Value.int IntKind.i64
                              (IntKind.wrap IntKind.i64
                                (IntKind.wrap IntKind.i64 (IntKind.wrap IntKind.i64 (AIn.base i - AIn.around i) - w) -
                                  orV (AIn.lA i) (AIn.lN i) 0)))],
                      [])
            else
              some
                (MV.tup
                    [MV.val (Value.int IntKind.i64 (orV (AIn.lA i) (AIn.lN i) 0)),
                      MV.val
                        (Value.int IntKind.i64
                          (IntKind.wrap IntKind.i64
                            (IntKind.wrap IntKind.i64 (IntKind.wrap IntKind.i64 (AIn.base i - AIn.around i) - w) -
                              orV (AIn.lA i) (AIn.lN i) 0)))],
                  [])
        else
          bif AIn.rtl i then
            bif
                decide
                  (IntKind.wrap IntKind.i64
                      (IntKind.wrap IntKind.i64
                          (IntKind.wrap IntKind.i64 (IntKind.wrap IntKind.i64 (AIn.base i - AIn.around i) - w) -
                            orV (AIn.lA i) (AIn.lN i) 0) -
                        orV (AIn.rA i) (AIn.rN i) 0) <
                    0) then
              some
                (MV.tup
                    [MV.val
                        (Value.int IntKind.i64
                          (IntKind.wrap IntKind.i64
                            (IntKind.wrap IntKind.i64 (IntKind.wrap IntKind.i64 (AIn.base i - AIn.around i) - w) -
                              orV (AIn.rA i) (AIn.rN i) 0))),
                      MV.val (Value.int IntKind.i64 (orV (AIn.rA i) (AIn.rN i) 0))],
                  [])
            else
              bif !AIn.rA i then
                some
                  (MV.tup
                      [MV.val
                          (Value.int IntKind.i64
                            (IntKind.wrap IntKind.i64
                              (IntKind.wrap IntKind.i64 (IntKind.wrap IntKind.i64 (AIn.base i - AIn.around i) - w) -
                                orV (AIn.rA i) (AIn.rN i) 0))),
                        MV.val (Value.int IntKind.i64 (orV (AIn.rA i) (AIn.rN i) 0))],
                    [])
              else
                some
                  (MV.tup
                      [MV.val (Value.int IntKind.i64 (orV (AIn.lA i) (AIn.lN i) 0)),
                        MV.val
                          (Value.int IntKind.i64
                            (IntKind.wrap IntKind.i64
                              (IntKind.wrap IntKind.i64 (IntKind.wrap IntKind.i64 (AIn.base i - AIn.around i) - w) -
                                orV (AIn.lA i) (AIn.lN i) 0)))],
                    [])
          else
            some
              (MV.tup
                  [MV.val (Value.int IntKind.i64 (orV (AIn.lA i) (AIn.lN i) 0)),
                    MV.val
                      (Value.int IntKind.i64
                        (IntKind.wrap IntKind.i64
                          (IntKind.wrap IntKind.i64 (IntKind.wrap IntKind.i64 (AIn.base i - AIn.around i) - w) -
                            orV (AIn.lA i) (AIn.lN i) 0)))],
                [])
    else
      bif
          !decide
              (IntKind.wrap IntKind.i64
                  (IntKind.wrap IntKind.i64
                      (IntKind.wrap IntKind.i64 (IntKind.wrap IntKind.i64 (AIn.base i - AIn.around i) - w) -
                        orV (AIn.lA i) (AIn.lN i) 0) -
                    orV (AIn.rA i) (AIn.rN i) 0) <
                0) then
        bif AIn.lA i then
          some
            (MV.tup
                [MV.val
                    (Value.int IntKind.i64
                      (IntKind.wrap IntKind.i64
                        (IntKind.wrap IntKind.i64 (IntKind.wrap IntKind.i64 (AIn.base i - AIn.around i) - w) -
                          orV (AIn.rA i) (AIn.rN i) 0))),
                  MV.val (Value.int IntKind.i64 (orV (AIn.rA i) (AIn.rN i) 0))],
              [])
        else
          bif AIn.rtl i then
            bif
                decide
                  (IntKind.wrap IntKind.i64
                      (IntKind.wrap IntKind.i64
                          (IntKind.wrap IntKind.i64 (IntKind.wrap IntKind.i64 (AIn.base i - AIn.around i) - w) -
                            orV (AIn.lA i) (AIn.lN i) 0) -
                        orV (AIn.rA i) (AIn.rN i) 0) <
                    0) then
              some
                (MV.tup
                    [MV.val
                        (Value.int IntKind.i64
                          (IntKind.wrap IntKind.i64
                            (IntKind.wrap IntKind.i64 (IntKind.wrap IntKind.i64 (AIn.base i - AIn.around i) - w) -
                              orV (AIn.rA i) (AIn.rN i) 0))),
                      MV.val (Value.int IntKind.i64 (orV (AIn.rA i) (AIn.rN i) 0))],
                  [])
            else
              bif !AIn.rA i then
                some
                  (MV.tup
                      [MV.val
                          (Value.int IntKind.i64
                            (IntKind.wrap IntKind.i64
                              (IntKind.wrap IntKind.i64 (IntKind.wrap IntKind.i64 (AIn.base i - AIn.around i) - w) -
                                orV (AIn.rA i) (AIn.rN i) 0))),
                        MV.val (Value.int IntKind.i64 (orV (AIn.rA i) (AIn.rN i) 0))],
                    [])
              else
                some
                  (MV.tup
                      [MV.val (Value.int IntKind.i64 (orV (AIn.lA i) (AIn.lN i) 0)),
                        MV.val
                          (Value.int IntKind.i64
                            (IntKind.wrap IntKind.i64
                              (IntKind.wrap IntKind.i64 (IntKind.wrap IntKind.i64 (AIn.base i - AIn.around i) - w) -
                                orV (AIn.lA i) (AIn.lN i) 0)))],
                    [])
          else
            some
              (MV.tup
                  [MV.val (Value.int IntKind.i64 (orV (AIn.lA i) (AIn.lN i) 0)),
                    MV.val
                      (Value.int IntKind.i64
                        (IntKind.wrap IntKind.i64
                          (IntKind.wrap IntKind.i64 (IntKind.wrap IntKind.i64 (AIn.base i - AIn.around i) - w) -
                            orV (AIn.lA i) (AIn.lN i) 0)))],
                [])
      else
        bif AIn.rtl i then
          bif
              decide
                (IntKind.wrap IntKind.i64
                    (IntKind.wrap IntKind.i64
                        (IntKind.wrap IntKind.i64 (IntKind.wrap IntKind.i64 (AIn.base i - AIn.around i) - w) -
                          orV (AIn.lA i) (AIn.lN i) 0) -
                      orV (AIn.rA i) (AIn.rN i) 0) <
                  0) then
            some
              (MV.tup
                  [MV.val
                      (Value.int IntKind.i64
                        (IntKind.wrap IntKind.i64
                          (IntKind.wrap IntKind.i64 (IntKind.wrap IntKind.i64 (AIn.base i - AIn.around i) - w) -
                            orV (AIn.rA i) (AIn.rN i) 0))),
                    MV.val (Value.int IntKind.i64 (orV (AIn.rA i) (AIn.rN i) 0))],
                [])
          else
            bif !AIn.rA i then
              some
                (MV.tup
                    [MV.val
                        (Value.int IntKind.i64
                          (IntKind.wrap IntKind.i64
                            (IntKind.wrap IntKind.i64 (IntKind.wrap IntKind.i64 (AIn.base i - AIn.around i) - w) -
                              orV (AIn.rA i) (AIn.rN i) 0))),
                      MV.val (Value.int IntKind.i64 (orV (AIn.rA i) (AIn.rN i) 0))],
                  [])
            else
              some
                (MV.tup
                    [MV.val (Value.int IntKind.i64 (orV (AIn.lA i) (AIn.lN i) 0)),
                      MV.val
                        (Value.int IntKind.i64
                          (IntKind.wrap IntKind.i64
                            (IntKind.wrap IntKind.i64 (IntKind.wrap IntKind.i64 (AIn.base i - AIn.around i) - w) -
                              orV (AIn.lA i) (AIn.lN i) 0)))],
                  [])
        else
          some
            (MV.tup
                [MV.val (Value.int IntKind.i64 (orV (AIn.lA i) (AIn.lN i) 0)),
                  MV.val
                    (Value.int IntKind.i64
                      (IntKind.wrap IntKind.i64
                        (IntKind.wrap IntKind.i64 (IntKind.wrap IntKind.i64 (AIn.base i - AIn.around i) - w) -
                          orV (AIn.lA i) (AIn.lN i) 0)))],
              []) := by kernel_rfl
theorem q46 : QOk Try.prog 46 (toQ F_marg) := by
  refine Q_of_x (EX_ok _) C2_ok mixed (n := 6) (fun args v h => ?_)
  unfold F_marg at h
  split at h
  · rename_i base lA lN wA wN rA rN around rtl least most w
    injection h with h; subst h
    refine ⟨⟨_, rfl⟩, ⟨_, rfl⟩, ?_⟩
    refine (x46 ⟨base, lA, lN, wA, wN, rA, rN, around, rtl, least, most⟩ w).trans ?_
    dsimp only [AIn.marg, AIn.l3, AIn.l1, w6, I, B]
    by_cases h : IntKind.i64.wrap (IntKind.i64.wrap (IntKind.i64.wrap (IntKind.i64.wrap (base - around) - w) - orV lA lN 0) - orV rA rN 0) < 0 <;> simp only [h, decide_true, decide_false] <;> clear h
    all_goals
      cases lA <;> cases rA <;> cases rtl <;> simp only [cond_true, cond_false, Bool.not_true, Bool.not_false, Bool.true_and, Bool.false_and, Bool.and_true, Bool.and_false, Bool.true_or, Bool.false_or, Bool.or_true, Bool.or_false]
  · cases h
noncomputable def C3 : Ctx := addQ C2 46 F_marg
theorem C3_ok : COk Try.prog C3 := addQ_ok C2_ok q46 (fnOk_of Try.func46 (by kernel_rfl) (by kernel_rfl))
set_option maxRecDepth 100000 in
theorem x32 (i : AIn) (sA : Bool) (sN : Int) : xfun Try.prog (EX Try.prog) C3 6 32 [i.mv, .agg [B sA, I sN]] [] fin =
    bif sA then
      bif fitsB (orV (AIn.lA i) (AIn.lN i) 0) then
        bif
            fitsB
              (IntKind.wrap IntKind.i64
                (IntKind.wrap IntKind.i64
                    (IntKind.wrap IntKind.i64 (AIn.base i - AIn.around i) - orV (AIn.lA i) (AIn.lN i) 0) -
                  orV (AIn.rA i) (AIn.rN i) 0)) then
          some
            (MV.tup
                [MV.agg
                    [MV.val (Value.int IntKind.i64 (orV (AIn.lA i) (AIn.lN i) 0)),
                      MV.val
                        (Value.int IntKind.i64
                          (IntKind.wrap IntKind.i64
                            (IntKind.wrap IntKind.i64
                                (IntKind.wrap IntKind.i64 (AIn.base i - AIn.around i) - orV (AIn.lA i) (AIn.lN i) 0) -
                              orV (AIn.rA i) (AIn.rN i) 0))),
                      MV.val (Value.int IntKind.i64 (orV (AIn.rA i) (AIn.rN i) 0))],
                  MV.val
                    (Value.int IntKind.i64
                      (IntKind.wrap IntKind.i64
                        (IntKind.wrap IntKind.i64
                            (IntKind.wrap IntKind.i64 (AIn.base i - AIn.around i) - orV (AIn.lA i) (AIn.lN i) 0) -
                          orV (AIn.rA i) (AIn.rN i) 0))),
                  MV.val (Value.bool (fitsB (orV (AIn.rA i) (AIn.rN i) 0)))],
              [])
        else
          some
            (MV.tup
                [MV.agg
                    [MV.val (Value.int IntKind.i64 (orV (AIn.lA i) (AIn.lN i) 0)),
                      MV.val
                        (Value.int IntKind.i64
                          (IntKind.wrap IntKind.i64
                            (IntKind.wrap IntKind.i64
                                (IntKind.wrap IntKind.i64 (AIn.base i - AIn.around i) - orV (AIn.lA i) (AIn.lN i) 0) -
                              orV (AIn.rA i) (AIn.rN i) 0))),
                      MV.val (Value.int IntKind.i64 (orV (AIn.rA i) (AIn.rN i) 0))],
                  MV.val
                    (Value.int IntKind.i64
                      (IntKind.wrap IntKind.i64
                        (IntKind.wrap IntKind.i64
                            (IntKind.wrap IntKind.i64 (AIn.base i - AIn.around i) - orV (AIn.lA i) (AIn.lN i) 0) -
                          orV (AIn.rA i) (AIn.rN i) 0))),
                  MV.val (Value.bool false)],
              [])
      else
        some
          (MV.tup
              [MV.agg
                  [MV.val (Value.int IntKind.i64 (orV (AIn.lA i) (AIn.lN i) 0)),
                    MV.val
                      (Value.int IntKind.i64
                        (IntKind.wrap IntKind.i64
                          (IntKind.wrap IntKind.i64
                              (IntKind.wrap IntKind.i64 (AIn.base i - AIn.around i) - orV (AIn.lA i) (AIn.lN i) 0) -
                            orV (AIn.rA i) (AIn.rN i) 0))),
                    MV.val (Value.int IntKind.i64 (orV (AIn.rA i) (AIn.rN i) 0))],
                MV.val
                  (Value.int IntKind.i64
                    (IntKind.wrap IntKind.i64
                      (IntKind.wrap IntKind.i64
                          (IntKind.wrap IntKind.i64 (AIn.base i - AIn.around i) - orV (AIn.lA i) (AIn.lN i) 0) -
                        orV (AIn.rA i) (AIn.rN i) 0))),
                MV.val (Value.bool false)],
            [])
    else
      bif
          fitsB
            (Prod.fst
              (AIn.marg
                { base := AIn.base i, lA := AIn.lA i, lN := AIn.lN i, wA := AIn.wA i, wN := AIn.wN i, rA := AIn.rA i,
                  rN := AIn.rN i, around := AIn.around i, rtl := AIn.rtl i, least := AIn.least i, most := AIn.most i }
                sN)) then
        bif fitsB sN then
          some
            (MV.tup
                [MV.agg
                    [MV.val
                        (Value.int IntKind.i64
                          (Prod.fst
                            (AIn.marg
                              { base := AIn.base i, lA := AIn.lA i, lN := AIn.lN i, wA := AIn.wA i, wN := AIn.wN i,
                                rA := AIn.rA i, rN := AIn.rN i, around := AIn.around i, rtl := AIn.rtl i,
                                least := AIn.least i, most := AIn.most i }
                              sN))),
                      MV.val (Value.int IntKind.i64 sN),
                      MV.val
                        (Value.int IntKind.i64
                          (Prod.snd
                            (AIn.marg
                              { base := AIn.base i, lA := AIn.lA i, lN := AIn.lN i, wA := AIn.wA i, wN := AIn.wN i,
                                rA := AIn.rA i, rN := AIn.rN i, around := AIn.around i, rtl := AIn.rtl i,
                                least := AIn.least i, most := AIn.most i }
                              sN)))],
                  MV.val (Value.int IntKind.i64 sN),
                  MV.val
                    (Value.bool
                      (fitsB
                        (Prod.snd
                          (AIn.marg
                            { base := AIn.base i, lA := AIn.lA i, lN := AIn.lN i, wA := AIn.wA i, wN := AIn.wN i,
                              rA := AIn.rA i, rN := AIn.rN i, around := AIn.around i, rtl := AIn.rtl i,
                              least := AIn.least i, most := AIn.most i }
                            sN))))],
              [])
        else
          some
            (MV.tup
                [MV.agg
                    [MV.val
                        (Value.int IntKind.i64
                          (Prod.fst
                            (AIn.marg
                              { base := AIn.base i, lA := AIn.lA i, lN := AIn.lN i, wA := AIn.wA i, wN := AIn.wN i,
                                rA := AIn.rA i, rN := AIn.rN i, around := AIn.around i, rtl := AIn.rtl i,
                                least := AIn.least i, most := AIn.most i }
                              sN))),
                      MV.val (Value.int IntKind.i64 sN),
                      MV.val
                        (Value.int IntKind.i64
                          (Prod.snd
                            (AIn.marg
                              { base := AIn.base i, lA := AIn.lA i, lN := AIn.lN i, wA := AIn.wA i, wN := AIn.wN i,
                                rA := AIn.rA i, rN := AIn.rN i, around := AIn.around i, rtl := AIn.rtl i,
                                least := AIn.least i, most := AIn.most i }
                              sN)))],
                  MV.val (Value.int IntKind.i64 sN), MV.val (Value.bool false)],
              [])
      else
        some
          (MV.tup
              [MV.agg
                  [MV.val
                      (Value.int IntKind.i64
                        (Prod.fst
                          (AIn.marg
                            { base := AIn.base i, lA := AIn.lA i, lN := AIn.lN i, wA := AIn.wA i, wN := AIn.wN i,
                              rA := AIn.rA i, rN := AIn.rN i, around := AIn.around i, rtl := AIn.rtl i,
                              least := AIn.least i, most := AIn.most i }
                            sN))),
                    MV.val (Value.int IntKind.i64 sN),
                    MV.val
                      (Value.int IntKind.i64
                        (Prod.snd
                          (AIn.marg
                            { base := AIn.base i, lA := AIn.lA i, lN := AIn.lN i, wA := AIn.wA i, wN := AIn.wN i,
                              rA := AIn.rA i, rN := AIn.rN i, around := AIn.around i, rtl := AIn.rtl i,
                              least := AIn.least i, most := AIn.most i }
                            sN)))],
                MV.val (Value.int IntKind.i64 sN), MV.val (Value.bool false)],
            []) := by kernel_rfl
/-- The margins and the width that are asked for, as they come. -/
def AIn.sol (i : AIn) (sA : Bool) (sN : Int) : Int × Int × Int :=
  bif sA then (orV i.lA i.lN 0, i.l2 (orV i.lA i.lN 0) (orV i.rA i.rN 0), orV i.rA i.rN 0) else ((i.marg sN).1, sN, (i.marg sN).2)
def ok3 (o : Int × Int × Int) : Bool := fitsB o.1 && (fitsB o.2.1 && fitsB o.2.2)
def F_sol : List MV → Option MV
  | [.agg [.val (.int .i64 base), .val (.bool lA), .val (.int .i64 lN), .val (.bool wA), .val (.int .i64 wN), .val (.bool rA), .val (.int .i64 rN), .val (.int .i64 around), .val (.bool rtl), .val (.int .i64 least), .val (.int .i64 most)], .agg [.val (.bool sA), .val (.int .i64 sN)]] =>
    some (.tup [.agg [I (AIn.sol ⟨base, lA, lN, wA, wN, rA, rN, around, rtl, least, most⟩ sA sN).1, I (AIn.sol ⟨base, lA, lN, wA, wN, rA, rN, around, rtl, least, most⟩ sA sN).2.1, I (AIn.sol ⟨base, lA, lN, wA, wN, rA, rN, around, rtl, least, most⟩ sA sN).2.2],
      I (AIn.sol ⟨base, lA, lN, wA, wN, rA, rN, around, rtl, least, most⟩ sA sN).2.1, B (ok3 (AIn.sol ⟨base, lA, lN, wA, wN, rA, rN, around, rtl, least, most⟩ sA sN))])
  | _ => none
theorem q32 : QOk Try.prog 32 (toQ F_sol) := by
  refine Q_of_x (EX_ok _) C3_ok mixed (n := 6) (fun args v h => ?_)
  unfold F_sol at h
  split at h
  · rename_i base lA lN wA wN rA rN around rtl least most sA sN
    injection h with h; subst h
    refine ⟨⟨_, rfl⟩, ⟨_, rfl⟩, ?_⟩
    refine (x32 ⟨base, lA, lN, wA, wN, rA, rN, around, rtl, least, most⟩ sA sN).trans ?_
    dsimp only [AIn.sol, ok3, AIn.l2, w6, I, B]
    cases sA
    · simp only [cond_false]
      generalize fitsB _ = a
      cases a <;> simp
      all_goals first | done | (generalize fitsB _ = b; cases b <;> simp)
    · simp only [cond_true]
      generalize fitsB (orV lA lN 0) = a
      cases a <;> simp
      all_goals first | done | (generalize fitsB _ = b; cases b <;> simp)
  · cases h
noncomputable def C4 : Ctx := addQ C3 32 F_sol
theorem C4_ok : COk Try.prog C4 := addQ_ok C3_ok q32 (fnOk_of Try.func32 (by kernel_rfl) (by kernel_rfl))
noncomputable def C5 : Ctx := addI C4 44 (inlG Try.prog (EX Try.prog) C4 6 44)
theorem C5_ok : COk Try.prog C5 := addI_ok C4_ok (inl_ok (EX_ok _) C4_ok mixed 6 _) (fnOk_of Try.func44 (by kernel_rfl) (by kernel_rfl))
noncomputable def C6 : Ctx := addI C5 31 (inlG Try.prog (EX Try.prog) C5 6 31)
theorem C6_ok : COk Try.prog C6 := addI_ok C5_ok (inl_ok (EX_ok _) C5_ok mixed 6 _) (fnOk_of Try.func31 (by kernel_rfl) (by kernel_rfl))
set_option maxRecDepth 100000 in
theorem x15 (i : AIn) : xfun Try.prog (EX Try.prog) C6 7 15 [i.mv] [] fin =
    bif !fitsB (AIn.base i) then
      some
        (MV.tup
            [MV.agg [MV.val (Value.int IntKind.i64 0), MV.val (Value.int IntKind.i64 0), MV.val (Value.int IntKind.i64 0)],
              MV.val (Value.bool false)],
          [])
    else
      bif !fitsB (AIn.around i) then
        some
          (MV.tup
              [MV.agg
                  [MV.val (Value.int IntKind.i64 0), MV.val (Value.int IntKind.i64 0), MV.val (Value.int IntKind.i64 0)],
                MV.val (Value.bool false)],
            [])
      else
        bif !fitsB (orV (AIn.lA i) (AIn.lN i) 0) then
          some
            (MV.tup
                [MV.agg
                    [MV.val (Value.int IntKind.i64 0), MV.val (Value.int IntKind.i64 0), MV.val (Value.int IntKind.i64 0)],
                  MV.val (Value.bool false)],
              [])
        else
          bif !fitsB (orV (AIn.wA i) (AIn.wN i) 0) then
            some
              (MV.tup
                  [MV.agg
                      [MV.val (Value.int IntKind.i64 0), MV.val (Value.int IntKind.i64 0),
                        MV.val (Value.int IntKind.i64 0)],
                    MV.val (Value.bool false)],
                [])
          else
            bif !fitsB (orV (AIn.rA i) (AIn.rN i) 0) then
              some
                (MV.tup
                    [MV.agg
                        [MV.val (Value.int IntKind.i64 0), MV.val (Value.int IntKind.i64 0),
                          MV.val (Value.int IntKind.i64 0)],
                      MV.val (Value.bool false)],
                  [])
            else
              bif
                  !ok3
                      (AIn.sol
                        { base := AIn.base i, lA := AIn.lA i, lN := AIn.lN i, wA := AIn.wA i, wN := AIn.wN i,
                          rA := AIn.rA i, rN := AIn.rN i, around := AIn.around i, rtl := AIn.rtl i, least := AIn.least i,
                          most := AIn.most i }
                        (AIn.wA i) (AIn.wN i)) then
                some
                  (MV.tup
                      [MV.agg
                          [MV.val (Value.int IntKind.i64 0), MV.val (Value.int IntKind.i64 0),
                            MV.val (Value.int IntKind.i64 0)],
                        MV.val (Value.bool false)],
                    [])
              else
                bif
                    decide
                      (Prod.fst
                          (Prod.snd
                            (AIn.sol
                              { base := AIn.base i, lA := AIn.lA i, lN := AIn.lN i, wA := AIn.wA i, wN := AIn.wN i,
                                rA := AIn.rA i, rN := AIn.rN i, around := AIn.around i, rtl := AIn.rtl i,
                                least := AIn.least i, most := AIn.most i }
                              (AIn.wA i) (AIn.wN i))) >
                        AIn.most i) then
                  bif
                      !ok3
                          (AIn.sol
                            { base := AIn.base i, lA := AIn.lA i, lN := AIn.lN i, wA := AIn.wA i, wN := AIn.wN i,
                              rA := AIn.rA i, rN := AIn.rN i, around := AIn.around i, rtl := AIn.rtl i,
                              least := AIn.least i, most := AIn.most i }
                            false (AIn.most i)) then
                    some
                      (MV.tup
                          [MV.agg
                              [MV.val (Value.int IntKind.i64 0), MV.val (Value.int IntKind.i64 0),
                                MV.val (Value.int IntKind.i64 0)],
                            MV.val (Value.bool false)],
                        [])
                  else
                    bif
                        decide
                          (Prod.fst
                              (Prod.snd
                                (AIn.sol
                                  { base := AIn.base i, lA := AIn.lA i, lN := AIn.lN i, wA := AIn.wA i, wN := AIn.wN i,
                                    rA := AIn.rA i, rN := AIn.rN i, around := AIn.around i, rtl := AIn.rtl i,
                                    least := AIn.least i, most := AIn.most i }
                                  false (AIn.most i))) <
                            AIn.least i) then
                      bif
                          !ok3
                              (AIn.sol
                                { base := AIn.base i, lA := AIn.lA i, lN := AIn.lN i, wA := AIn.wA i, wN := AIn.wN i,
                                  rA := AIn.rA i, rN := AIn.rN i, around := AIn.around i, rtl := AIn.rtl i,
                                  least := AIn.least i, most := AIn.most i }
                                false (AIn.least i)) then
                        some
                          (MV.tup
                              [MV.agg
                                  [MV.val (Value.int IntKind.i64 0), MV.val (Value.int IntKind.i64 0),
                                    MV.val (Value.int IntKind.i64 0)],
                                MV.val (Value.bool false)],
                            [])
                      else
                        some
                          (MV.tup
                              [MV.agg
                                  [MV.val
                                      (Value.int IntKind.i64
                                        (Prod.fst
                                          (AIn.sol
                                            { base := AIn.base i, lA := AIn.lA i, lN := AIn.lN i, wA := AIn.wA i,
                                              wN := AIn.wN i, rA := AIn.rA i, rN := AIn.rN i, around := AIn.around i,
                                              rtl := AIn.rtl i, least := AIn.least i, most := AIn.most i }
                                            false (AIn.least i)))),
                                    MV.val
                                      (Value.int IntKind.i64
                                        (Prod.fst
                                          (Prod.snd
                                            (AIn.sol
                                              { base := AIn.base i, lA := AIn.lA i, lN := AIn.lN i, wA := AIn.wA i,
                                                wN := AIn.wN i, rA := AIn.rA i, rN := AIn.rN i, around := AIn.around i,
                                                rtl := AIn.rtl i, least := AIn.least i, most := AIn.most i }
                                              false (AIn.least i))))),
                                    MV.val
                                      (Value.int IntKind.i64
                                        (Prod.snd
                                          (Prod.snd
                                            (AIn.sol
                                              { base := AIn.base i, lA := AIn.lA i, lN := AIn.lN i, wA := AIn.wA i,
                                                wN := AIn.wN i, rA := AIn.rA i, rN := AIn.rN i, around := AIn.around i,
                                                rtl := AIn.rtl i, least := AIn.least i, most := AIn.most i }
                                              false (AIn.least i)))))],
                                MV.val (Value.bool true)],
                            [])
                    else
                      some
                        (MV.tup
                            [MV.agg
                                [MV.val
                                    (Value.int IntKind.i64
                                      (Prod.fst
                                        (AIn.sol
                                          { base := AIn.base i, lA := AIn.lA i, lN := AIn.lN i, wA := AIn.wA i,
                                            wN := AIn.wN i, rA := AIn.rA i, rN := AIn.rN i, around := AIn.around i,
                                            rtl := AIn.rtl i, least := AIn.least i, most := AIn.most i }
                                          false (AIn.most i)))),
                                  MV.val
                                    (Value.int IntKind.i64
                                      (Prod.fst
                                        (Prod.snd
                                          (AIn.sol
                                            { base := AIn.base i, lA := AIn.lA i, lN := AIn.lN i, wA := AIn.wA i,
                                              wN := AIn.wN i, rA := AIn.rA i, rN := AIn.rN i, around := AIn.around i,
                                              rtl := AIn.rtl i, least := AIn.least i, most := AIn.most i }
                                            false (AIn.most i))))),
                                  MV.val
                                    (Value.int IntKind.i64
                                      (Prod.snd
                                        (Prod.snd
                                          (AIn.sol
                                            { base := AIn.base i, lA := AIn.lA i, lN := AIn.lN i, wA := AIn.wA i,
                                              wN := AIn.wN i, rA := AIn.rA i, rN := AIn.rN i, around := AIn.around i,
                                              rtl := AIn.rtl i, least := AIn.least i, most := AIn.most i }
                                            false (AIn.most i)))))],
                              MV.val (Value.bool true)],
                          [])
                else
                  bif
                      decide
                        (Prod.fst
                            (Prod.snd
                              (AIn.sol
                                { base := AIn.base i, lA := AIn.lA i, lN := AIn.lN i, wA := AIn.wA i, wN := AIn.wN i,
                                  rA := AIn.rA i, rN := AIn.rN i, around := AIn.around i, rtl := AIn.rtl i,
                                  least := AIn.least i, most := AIn.most i }
                                (AIn.wA i) (AIn.wN i))) <
                          AIn.least i) then
                    bif
                        !ok3
                            (AIn.sol
                              { base := AIn.base i, lA := AIn.lA i, lN := AIn.lN i, wA := AIn.wA i, wN := AIn.wN i,
                                rA := AIn.rA i, rN := AIn.rN i, around := AIn.around i, rtl := AIn.rtl i,
                                least := AIn.least i, most := AIn.most i }
                              false (AIn.least i)) then
                      some
                        (MV.tup
                            [MV.agg
                                [MV.val (Value.int IntKind.i64 0), MV.val (Value.int IntKind.i64 0),
                                  MV.val (Value.int IntKind.i64 0)],
                              MV.val (Value.bool false)],
                          [])
                    else
                      some
                        (MV.tup
                            [MV.agg
                                [MV.val
                                    (Value.int IntKind.i64
                                      (Prod.fst
                                        (AIn.sol
                                          { base := AIn.base i, lA := AIn.lA i, lN := AIn.lN i, wA := AIn.wA i,
                                            wN := AIn.wN i, rA := AIn.rA i, rN := AIn.rN i, around := AIn.around i,
                                            rtl := AIn.rtl i, least := AIn.least i, most := AIn.most i }
                                          false (AIn.least i)))),
                                  MV.val
                                    (Value.int IntKind.i64
                                      (Prod.fst
                                        (Prod.snd
                                          (AIn.sol
                                            { base := AIn.base i, lA := AIn.lA i, lN := AIn.lN i, wA := AIn.wA i,
                                              wN := AIn.wN i, rA := AIn.rA i, rN := AIn.rN i, around := AIn.around i,
                                              rtl := AIn.rtl i, least := AIn.least i, most := AIn.most i }
                                            false (AIn.least i))))),
                                  MV.val
                                    (Value.int IntKind.i64
                                      (Prod.snd
                                        (Prod.snd
                                          (AIn.sol
                                            { base := AIn.base i, lA := AIn.lA i, lN := AIn.lN i, wA := AIn.wA i,
                                              wN := AIn.wN i, rA := AIn.rA i, rN := AIn.rN i, around := AIn.around i,
                                              rtl := AIn.rtl i, least := AIn.least i, most := AIn.most i }
                                            false (AIn.least i)))))],
                              MV.val (Value.bool true)],
                          [])
                  else
                    some
                      (MV.tup
                          [MV.agg
                              [MV.val
                                  (Value.int IntKind.i64
                                    (Prod.fst
                                      (AIn.sol
                                        { base := AIn.base i, lA := AIn.lA i, lN := AIn.lN i, wA := AIn.wA i,
                                          wN := AIn.wN i, rA := AIn.rA i, rN := AIn.rN i, around := AIn.around i,
                                          rtl := AIn.rtl i, least := AIn.least i, most := AIn.most i }
                                        (AIn.wA i) (AIn.wN i)))),
                                MV.val
                                  (Value.int IntKind.i64
                                    (Prod.fst
                                      (Prod.snd
                                        (AIn.sol
                                          { base := AIn.base i, lA := AIn.lA i, lN := AIn.lN i, wA := AIn.wA i,
                                            wN := AIn.wN i, rA := AIn.rA i, rN := AIn.rN i, around := AIn.around i,
                                            rtl := AIn.rtl i, least := AIn.least i, most := AIn.most i }
                                          (AIn.wA i) (AIn.wN i))))),
                                MV.val
                                  (Value.int IntKind.i64
                                    (Prod.snd
                                      (Prod.snd
                                        (AIn.sol
                                          { base := AIn.base i, lA := AIn.lA i, lN := AIn.lN i, wA := AIn.wA i,
                                            wN := AIn.wN i, rA := AIn.rA i, rN := AIn.rN i, around := AIn.around i,
                                            rtl := AIn.rtl i, least := AIn.least i, most := AIn.most i }
                                          (AIn.wA i) (AIn.wN i)))))],
                            MV.val (Value.bool true)],
                        []) := by kernel_rfl
end Go.Proofs.Ytokdpnpldoaepaa.Ac
