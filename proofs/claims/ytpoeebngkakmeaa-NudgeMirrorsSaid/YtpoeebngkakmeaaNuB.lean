/- What is proved: how far a box is moved, and the statements about it, on the small memory. Conditions: none but those in each statement. -/
import Derived.Test.YtpoeebngkakmeaaNuA
namespace Go.Proofs.Ytpoeebngkakmeaa.Nu
open Go Go.RowKit Go.Proofs.Ytpoeebngkakmeaa.X
set_option linter.unusedVariables false
set_option linter.unusedSimpArgs false
def pickN (aA : Bool) (aN : Int) (bA : Bool) (bN : Int) (t : Bool) : Int := bif aA || (t && !bA) then w6 (0 - orV bA bN 0) else aN
def F_pick : List MV → Option MV
  | [.agg [.val (.bool aA), .val (.int .i64 aN)], .agg [.val (.bool bA), .val (.int .i64 bN)], .val (.bool t)] => some (I (pickN aA aN bA bN t))
  | _ => none
set_option maxRecDepth 100000 in
theorem xPick (aA : Bool) (aN : Int) (bA : Bool) (bN : Int) (t : Bool) : xfun Try.prog (EX Try.prog) C1 3 44 [.agg [B aA, I aN], .agg [B bA, I bN], B t] [] fin =
    bif aA then some (MV.val (Value.int IntKind.i64 (IntKind.wrap IntKind.i64 (0 - orV bA bN 0))), [])
    else
      bif t then
        bif !bA then some (MV.val (Value.int IntKind.i64 (IntKind.wrap IntKind.i64 (0 - orV bA bN 0))), [])
        else some (MV.val (Value.int IntKind.i64 aN), [])
      else some (MV.val (Value.int IntKind.i64 aN), []) := by kernel_rfl
theorem qPick : QOk Try.prog 44 (toQ F_pick) := by
  refine Q_of_x (EX_ok _) C1_ok mixed (n := 3) (fun args v h => ?_)
  unfold F_pick at h
  split at h
  · injection h with h; subst h
    refine ⟨⟨_, rfl⟩, ⟨_, rfl⟩, ?_⟩
    rename_i aA aN bA bN t
    refine (xPick aA aN bA bN t).trans ?_
    dsimp only [pickN, w6, I]
    cases aA <;> cases bA <;> cases t <;> simp only [Bool.not_true, Bool.not_false, cond_true, cond_false, Bool.true_and, Bool.false_and, Bool.or_true, Bool.or_false, Bool.true_or, Bool.false_or]
  · cases h
noncomputable def C4 : Ctx := addQ (addQ C1 41 F_of) 44 F_pick
theorem C4_ok : COk Try.prog C4 := addQ_ok (addQ_ok C1_ok qOf (fnOk_of Try.func41 (by kernel_rfl) (by kernel_rfl))) qPick (fnOk_of Try.func44 (by kernel_rfl) (by kernel_rfl))
/-- A style: what stands ahead of Off, Off, and what stands behind. -/
abbrev sty (s0 : Bool) (s1 k0 n0 k1 n1 k2 n2 k3 n3 : Int) (wk wn hk hn iwk iwn awk awn ihk ihn ahk ahn : Int) (m0 m1 m2 m3 m4 m5 m6 m7 p0 p1 p2 p3 p4 p5 p6 p7 b0 b1 b2 b3 : Int) (rtl hz : Bool) (z : Int) (cl : Bool) (ba li : Int) : List MV :=
  [B s0, I s1, I k0, I n0, I k1, I n1, I k2, I n2, I k3, I n3, I wk, I wn, I hk, I hn, I iwk, I iwn, I awk, I awn, I ihk, I ihn, I ahk, I ahn, I m0, I m1, I m2, I m3, I m4, I m5, I m6, I m7, I p0, I p1, I p2, I p3, I p4, I p5, I p6, I p7, I b0, I b1, I b2, I b3, B rtl, B hz, I z, B cl, I ba, I li]
set_option maxRecDepth 100000 in
theorem xBy (s0 : Bool) (s1 k0 n0 k1 n1 k2 n2 k3 n3 wk wn hk hn iwk iwn awk awn ihk ihn ahk ahn m0 m1 m2 m3 m4 m5 m6 m7 p0 p1 p2 p3 p4 p5 p6 p7 b0 b1 b2 b3 : Int) (rtl hz : Bool) (z : Int) (cl : Bool) (ba li w : Int) (hA : Bool) (hN : Int) (r : Bool) : xfun Try.prog (EX Try.prog) C4 6 34 [.agg (sty s0 s1 k0 n0 k1 n1 k2 n2 k3 n3 wk wn hk hn iwk iwn awk awn ihk ihn ahk ahn m0 m1 m2 m3 m4 m5 m6 m7 p0 p1 p2 p3 p4 p5 p6 p7 b0 b1 b2 b3 rtl hz z cl ba li), I w, .agg [B hA, I hN], B r] [] fin =
    bif s1 != 1 then
      some (MV.tup [MV.val (Value.int IntKind.i64 0), MV.val (Value.int IntKind.i64 0), MV.val (Value.bool true)], [])
    else
      bif !Prod.snd (ofP k0 n0 hN !hA) then
        some (MV.tup [MV.val (Value.int IntKind.i64 0), MV.val (Value.int IntKind.i64 0), MV.val (Value.bool false)], [])
      else
        bif !Prod.snd (ofP k1 n1 w true) then
          some (MV.tup [MV.val (Value.int IntKind.i64 0), MV.val (Value.int IntKind.i64 0), MV.val (Value.bool false)], [])
        else
          bif !Prod.snd (ofP k2 n2 hN !hA) then
            some
              (MV.tup [MV.val (Value.int IntKind.i64 0), MV.val (Value.int IntKind.i64 0), MV.val (Value.bool false)], [])
          else
            bif !Prod.snd (ofP k3 n3 w true) then
              some
                (MV.tup [MV.val (Value.int IntKind.i64 0), MV.val (Value.int IntKind.i64 0), MV.val (Value.bool false)], [])
            else
              some
                (MV.tup
                    [MV.val
                        (Value.int IntKind.i64
                          (pickN (Prod.fst (Prod.fst (ofP k3 n3 w true))) (Prod.snd (Prod.fst (ofP k3 n3 w true)))
                            (Prod.fst (Prod.fst (ofP k1 n1 w true))) (Prod.snd (Prod.fst (ofP k1 n1 w true))) r)),
                      MV.val
                        (Value.int IntKind.i64
                          (pickN (Prod.fst (Prod.fst (ofP k0 n0 hN !hA))) (Prod.snd (Prod.fst (ofP k0 n0 hN !hA)))
                            (Prod.fst (Prod.fst (ofP k2 n2 hN !hA))) (Prod.snd (Prod.fst (ofP k2 n2 hN !hA))) false)),
                      MV.val (Value.bool true)],
                  []) := by kernel_rfl
noncomputable def C5 : Ctx := addI C4 34 (inlG Try.prog (EX Try.prog) C4 6 34)
theorem C5_ok : COk Try.prog C5 := addI_ok C4_ok (inl_ok (EX_ok _) C4_ok mixed 6 _) (fnOk_of Try.func34 (by kernel_rfl) (by kernel_rfl))
noncomputable def C6 : Ctx := addI C5 43 (inlG Try.prog (EX Try.prog) C0 6 43)
theorem C6_ok : COk Try.prog C6 := addI_ok C5_ok (inl_ok (EX_ok _) (C0_ok _) mixed 6 _) (fnOk_of Try.func43 (by kernel_rfl) (by kernel_rfl))
def F_true : List MV → Option MV
  | [] => some (B true)
  | _ => none
set_option maxRecDepth 100000 in
theorem qAwake : QOk Try.prog 33 (toQ F_true) := by
  refine Q_of_x (EX_ok _) C6_ok mixed (n := 6) (fun args v h => ?_)
  unfold F_true at h
  split at h
  · injection h with h; subst h
    exact ⟨⟨_, rfl⟩, ⟨_, rfl⟩, by kernel_rfl⟩
  · cases h
noncomputable def L1 : Ctx := addQ C5 33 F_true
theorem L1_ok : COk Try.prog L1 := addQ_ok C5_ok qAwake (fnOk_of Try.func33 (by kernel_rfl) (by kernel_rfl))
set_option maxRecDepth 100000 in
theorem xNone (s0 : Bool) (s1 k0 n0 k1 n1 k2 n2 k3 n3 wk wn hk hn iwk iwn awk awn ihk ihn ahk ahn m0 m1 m2 m3 m4 m5 m6 m7 p0 p1 p2 p3 p4 p5 p6 p7 b0 b1 b2 b3 : Int) (rtl hz : Bool) (z : Int) (cl : Bool) (ba li w : Int) (hA : Bool) (hN : Int) (r : Bool) : xfun Try.prog (EX Try.prog) L1 6 12 [.agg (sty s0 s1 k0 n0 k1 n1 k2 n2 k3 n3 wk wn hk hn iwk iwn awk awn ihk ihn ahk ahn m0 m1 m2 m3 m4 m5 m6 m7 p0 p1 p2 p3 p4 p5 p6 p7 b0 b1 b2 b3 rtl hz z cl ba li), I w, .agg [B hA, I hN], B r] [] fin =
    bif s1 != 1 then some (MV.val (Value.bool true), []) else some (MV.val (Value.bool true), []) := by kernel_rfl
set_option maxRecDepth 100000 in
theorem xMirrors (s0 : Bool) (s1 k0 n0 k1 n1 k2 n2 k3 n3 wk wn hk hn iwk iwn awk awn ihk ihn ahk ahn m0 m1 m2 m3 m4 m5 m6 m7 p0 p1 p2 p3 p4 p5 p6 p7 b0 b1 b2 b3 : Int) (rtl hz : Bool) (z : Int) (cl : Bool) (ba li w : Int) (hA : Bool) (hN : Int) (r : Bool) : xfun Try.prog (EX Try.prog) L1 6 13 [.agg (sty s0 s1 k0 n0 k1 n1 k2 n2 k3 n3 wk wn hk hn iwk iwn awk awn ihk ihn ahk ahn m0 m1 m2 m3 m4 m5 m6 m7 p0 p1 p2 p3 p4 p5 p6 p7 b0 b1 b2 b3 rtl hz z cl ba li), I w, .agg [B hA, I hN], B r] [] fin =
    bif s1 != 1 then
      bif s1 != 1 then some (MV.val (Value.bool (true == true)), [])
      else
        bif !Prod.snd (ofP k0 n0 hN !hA) then some (MV.val (Value.bool (true == false)), [])
        else
          bif !Prod.snd (ofP k3 n3 w true) then some (MV.val (Value.bool (true == false)), [])
          else
            bif !Prod.snd (ofP k2 n2 hN !hA) then some (MV.val (Value.bool (true == false)), [])
            else
              bif !Prod.snd (ofP k1 n1 w true) then some (MV.val (Value.bool (true == false)), [])
              else
                bif
                    0 ==
                      IntKind.wrap IntKind.i64
                        (0 -
                          pickN (Prod.fst (Prod.fst (ofP k1 n1 w true))) (Prod.snd (Prod.fst (ofP k1 n1 w true)))
                            (Prod.fst (Prod.fst (ofP k3 n3 w true))) (Prod.snd (Prod.fst (ofP k3 n3 w true))) !r) then
                  bif
                      0 ==
                        pickN (Prod.fst (Prod.fst (ofP k0 n0 hN !hA))) (Prod.snd (Prod.fst (ofP k0 n0 hN !hA)))
                          (Prod.fst (Prod.fst (ofP k2 n2 hN !hA))) (Prod.snd (Prod.fst (ofP k2 n2 hN !hA))) false then
                    some (MV.val (Value.bool (true == true)), [])
                  else some (MV.val (Value.bool false), [])
                else some (MV.val (Value.bool false), [])
    else
      bif !Prod.snd (ofP k0 n0 hN !hA) then
        bif s1 != 1 then some (MV.val (Value.bool (false == true)), [])
        else
          bif !Prod.snd (ofP k0 n0 hN !hA) then some (MV.val (Value.bool (false == false)), [])
          else
            bif !Prod.snd (ofP k3 n3 w true) then some (MV.val (Value.bool (false == false)), [])
            else
              bif !Prod.snd (ofP k2 n2 hN !hA) then some (MV.val (Value.bool (false == false)), [])
              else
                bif !Prod.snd (ofP k1 n1 w true) then some (MV.val (Value.bool (false == false)), [])
                else
                  bif
                      0 ==
                        IntKind.wrap IntKind.i64
                          (0 -
                            pickN (Prod.fst (Prod.fst (ofP k1 n1 w true))) (Prod.snd (Prod.fst (ofP k1 n1 w true)))
                              (Prod.fst (Prod.fst (ofP k3 n3 w true))) (Prod.snd (Prod.fst (ofP k3 n3 w true))) !r) then
                    bif
                        0 ==
                          pickN (Prod.fst (Prod.fst (ofP k0 n0 hN !hA))) (Prod.snd (Prod.fst (ofP k0 n0 hN !hA)))
                            (Prod.fst (Prod.fst (ofP k2 n2 hN !hA))) (Prod.snd (Prod.fst (ofP k2 n2 hN !hA))) false then
                      some (MV.val (Value.bool (false == true)), [])
                    else some (MV.val (Value.bool false), [])
                  else some (MV.val (Value.bool false), [])
      else
        bif !Prod.snd (ofP k1 n1 w true) then
          bif s1 != 1 then some (MV.val (Value.bool (false == true)), [])
          else
            bif !Prod.snd (ofP k0 n0 hN !hA) then some (MV.val (Value.bool (false == false)), [])
            else
              bif !Prod.snd (ofP k3 n3 w true) then some (MV.val (Value.bool (false == false)), [])
              else
                bif !Prod.snd (ofP k2 n2 hN !hA) then some (MV.val (Value.bool (false == false)), [])
                else
                  bif !Prod.snd (ofP k1 n1 w true) then some (MV.val (Value.bool (false == false)), [])
                  else
                    bif
                        0 ==
                          IntKind.wrap IntKind.i64
                            (0 -
                              pickN (Prod.fst (Prod.fst (ofP k1 n1 w true))) (Prod.snd (Prod.fst (ofP k1 n1 w true)))
                                (Prod.fst (Prod.fst (ofP k3 n3 w true))) (Prod.snd (Prod.fst (ofP k3 n3 w true))) !r) then
                      bif
                          0 ==
                            pickN (Prod.fst (Prod.fst (ofP k0 n0 hN !hA))) (Prod.snd (Prod.fst (ofP k0 n0 hN !hA)))
                              (Prod.fst (Prod.fst (ofP k2 n2 hN !hA))) (Prod.snd (Prod.fst (ofP k2 n2 hN !hA))) false then
                        some (MV.val (Value.bool (false == true)), [])
                      else some (MV.val (Value.bool false), [])
                    else some (MV.val (Value.bool false), [])
        else
          bif !Prod.snd (ofP k2 n2 hN !hA) then
            bif s1 != 1 then some (MV.val (Value.bool (false == true)), [])
            else
              bif !Prod.snd (ofP k0 n0 hN !hA) then some (MV.val (Value.bool (false == false)), [])
              else
                bif !Prod.snd (ofP k3 n3 w true) then some (MV.val (Value.bool (false == false)), [])
                else
                  bif !Prod.snd (ofP k2 n2 hN !hA) then some (MV.val (Value.bool (false == false)), [])
                  else
                    bif !Prod.snd (ofP k1 n1 w true) then some (MV.val (Value.bool (false == false)), [])
                    else
                      bif
                          0 ==
                            IntKind.wrap IntKind.i64
                              (0 -
                                pickN (Prod.fst (Prod.fst (ofP k1 n1 w true))) (Prod.snd (Prod.fst (ofP k1 n1 w true)))
                                  (Prod.fst (Prod.fst (ofP k3 n3 w true))) (Prod.snd (Prod.fst (ofP k3 n3 w true))) !r) then
                        bif
                            0 ==
                              pickN (Prod.fst (Prod.fst (ofP k0 n0 hN !hA))) (Prod.snd (Prod.fst (ofP k0 n0 hN !hA)))
                                (Prod.fst (Prod.fst (ofP k2 n2 hN !hA))) (Prod.snd (Prod.fst (ofP k2 n2 hN !hA))) false then
                          some (MV.val (Value.bool (false == true)), [])
                        else some (MV.val (Value.bool false), [])
                      else some (MV.val (Value.bool false), [])
          else
            bif !Prod.snd (ofP k3 n3 w true) then
              bif s1 != 1 then some (MV.val (Value.bool (false == true)), [])
              else
                bif !Prod.snd (ofP k0 n0 hN !hA) then some (MV.val (Value.bool (false == false)), [])
                else
                  bif !Prod.snd (ofP k3 n3 w true) then some (MV.val (Value.bool (false == false)), [])
                  else
                    bif !Prod.snd (ofP k2 n2 hN !hA) then some (MV.val (Value.bool (false == false)), [])
                    else
                      bif !Prod.snd (ofP k1 n1 w true) then some (MV.val (Value.bool (false == false)), [])
                      else
                        bif
                            0 ==
                              IntKind.wrap IntKind.i64
                                (0 -
                                  pickN (Prod.fst (Prod.fst (ofP k1 n1 w true))) (Prod.snd (Prod.fst (ofP k1 n1 w true)))
                                    (Prod.fst (Prod.fst (ofP k3 n3 w true))) (Prod.snd (Prod.fst (ofP k3 n3 w true)))
                                    !r) then
                          bif
                              0 ==
                                pickN (Prod.fst (Prod.fst (ofP k0 n0 hN !hA))) (Prod.snd (Prod.fst (ofP k0 n0 hN !hA)))
                                  (Prod.fst (Prod.fst (ofP k2 n2 hN !hA))) (Prod.snd (Prod.fst (ofP k2 n2 hN !hA)))
                                  false then
                            some (MV.val (Value.bool (false == true)), [])
                          else some (MV.val (Value.bool false), [])
                        else some (MV.val (Value.bool false), [])
            else
              bif s1 != 1 then
                bif
                    pickN (Prod.fst (Prod.fst (ofP k3 n3 w true))) (Prod.snd (Prod.fst (ofP k3 n3 w true)))
                        (Prod.fst (Prod.fst (ofP k1 n1 w true))) (Prod.snd (Prod.fst (ofP k1 n1 w true))) r ==
                      IntKind.wrap IntKind.i64 (0 - 0) then
                  bif
                      pickN (Prod.fst (Prod.fst (ofP k0 n0 hN !hA))) (Prod.snd (Prod.fst (ofP k0 n0 hN !hA)))
                          (Prod.fst (Prod.fst (ofP k2 n2 hN !hA))) (Prod.snd (Prod.fst (ofP k2 n2 hN !hA))) false ==
                        0 then
                    some (MV.val (Value.bool (true == true)), [])
                  else some (MV.val (Value.bool false), [])
                else some (MV.val (Value.bool false), [])
              else
                bif !Prod.snd (ofP k0 n0 hN !hA) then
                  bif
                      pickN (Prod.fst (Prod.fst (ofP k3 n3 w true))) (Prod.snd (Prod.fst (ofP k3 n3 w true)))
                          (Prod.fst (Prod.fst (ofP k1 n1 w true))) (Prod.snd (Prod.fst (ofP k1 n1 w true))) r ==
                        IntKind.wrap IntKind.i64 (0 - 0) then
                    bif
                        pickN (Prod.fst (Prod.fst (ofP k0 n0 hN !hA))) (Prod.snd (Prod.fst (ofP k0 n0 hN !hA)))
                            (Prod.fst (Prod.fst (ofP k2 n2 hN !hA))) (Prod.snd (Prod.fst (ofP k2 n2 hN !hA))) false ==
                          0 then
                      some (MV.val (Value.bool (true == false)), [])
                    else some (MV.val (Value.bool false), [])
                  else some (MV.val (Value.bool false), [])
                else
                  bif !Prod.snd (ofP k3 n3 w true) then
                    bif
                        pickN (Prod.fst (Prod.fst (ofP k3 n3 w true))) (Prod.snd (Prod.fst (ofP k3 n3 w true)))
                            (Prod.fst (Prod.fst (ofP k1 n1 w true))) (Prod.snd (Prod.fst (ofP k1 n1 w true))) r ==
                          IntKind.wrap IntKind.i64 (0 - 0) then
                      bif
                          pickN (Prod.fst (Prod.fst (ofP k0 n0 hN !hA))) (Prod.snd (Prod.fst (ofP k0 n0 hN !hA)))
                              (Prod.fst (Prod.fst (ofP k2 n2 hN !hA))) (Prod.snd (Prod.fst (ofP k2 n2 hN !hA))) false ==
                            0 then
                        some (MV.val (Value.bool (true == false)), [])
                      else some (MV.val (Value.bool false), [])
                    else some (MV.val (Value.bool false), [])
                  else
                    bif !Prod.snd (ofP k2 n2 hN !hA) then
                      bif
                          pickN (Prod.fst (Prod.fst (ofP k3 n3 w true))) (Prod.snd (Prod.fst (ofP k3 n3 w true)))
                              (Prod.fst (Prod.fst (ofP k1 n1 w true))) (Prod.snd (Prod.fst (ofP k1 n1 w true))) r ==
                            IntKind.wrap IntKind.i64 (0 - 0) then
                        bif
                            pickN (Prod.fst (Prod.fst (ofP k0 n0 hN !hA))) (Prod.snd (Prod.fst (ofP k0 n0 hN !hA)))
                                (Prod.fst (Prod.fst (ofP k2 n2 hN !hA))) (Prod.snd (Prod.fst (ofP k2 n2 hN !hA))) false ==
                              0 then
                          some (MV.val (Value.bool (true == false)), [])
                        else some (MV.val (Value.bool false), [])
                      else some (MV.val (Value.bool false), [])
                    else
                      bif !Prod.snd (ofP k1 n1 w true) then
                        bif
                            pickN (Prod.fst (Prod.fst (ofP k3 n3 w true))) (Prod.snd (Prod.fst (ofP k3 n3 w true)))
                                (Prod.fst (Prod.fst (ofP k1 n1 w true))) (Prod.snd (Prod.fst (ofP k1 n1 w true))) r ==
                              IntKind.wrap IntKind.i64 (0 - 0) then
                          bif
                              pickN (Prod.fst (Prod.fst (ofP k0 n0 hN !hA))) (Prod.snd (Prod.fst (ofP k0 n0 hN !hA)))
                                  (Prod.fst (Prod.fst (ofP k2 n2 hN !hA))) (Prod.snd (Prod.fst (ofP k2 n2 hN !hA))) false ==
                                0 then
                            some (MV.val (Value.bool (true == false)), [])
                          else some (MV.val (Value.bool false), [])
                        else some (MV.val (Value.bool false), [])
                      else
                        bif
                            pickN (Prod.fst (Prod.fst (ofP k3 n3 w true))) (Prod.snd (Prod.fst (ofP k3 n3 w true)))
                                (Prod.fst (Prod.fst (ofP k1 n1 w true))) (Prod.snd (Prod.fst (ofP k1 n1 w true))) r ==
                              IntKind.wrap IntKind.i64
                                (0 -
                                  pickN (Prod.fst (Prod.fst (ofP k1 n1 w true))) (Prod.snd (Prod.fst (ofP k1 n1 w true)))
                                    (Prod.fst (Prod.fst (ofP k3 n3 w true))) (Prod.snd (Prod.fst (ofP k3 n3 w true)))
                                    !r) then
                          bif
                              pickN (Prod.fst (Prod.fst (ofP k0 n0 hN !hA))) (Prod.snd (Prod.fst (ofP k0 n0 hN !hA)))
                                  (Prod.fst (Prod.fst (ofP k2 n2 hN !hA))) (Prod.snd (Prod.fst (ofP k2 n2 hN !hA))) false ==
                                pickN (Prod.fst (Prod.fst (ofP k0 n0 hN !hA))) (Prod.snd (Prod.fst (ofP k0 n0 hN !hA)))
                                  (Prod.fst (Prod.fst (ofP k2 n2 hN !hA))) (Prod.snd (Prod.fst (ofP k2 n2 hN !hA)))
                                  false then
                            some (MV.val (Value.bool (true == true)), [])
                          else some (MV.val (Value.bool false), [])
                        else some (MV.val (Value.bool false), []) := by kernel_rfl
end Go.Proofs.Ytpoeebngkakmeaa.Nu
