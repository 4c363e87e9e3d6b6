/- What is proved: contracts of the document's answer for the layer across, and the statements' forms. Conditions: none but those in each statement. -/
import Derived.Test.YtokdpnpldoaepaaAcE
namespace Go.Proofs.Ytokdpnpldoaepaa.Ac
open Go Go.RowKit Go.Proofs.Ytokdpnpldoaepaa.X
set_option linter.unusedVariables false
set_option linter.unusedSimpArgs false
def AIn.rstep (i : AIn) (c : Bool) (n : Int) (r : (Int × Int × Int) × Bool) : (Int × Int × Int) × Bool := bif r.2 && c then i.rfor false n else r
def AIn.rsolve (i : AIn) : (Int × Int × Int) × Bool :=
  bif i.fits then
    (bif !(i.rstep (decide ((i.rstep (decide ((i.rfor i.wA i.wN).1.2.1 > i.most)) i.most (i.rfor i.wA i.wN)).1.2.1 < i.least)) i.least (i.rstep (decide ((i.rfor i.wA i.wN).1.2.1 > i.most)) i.most (i.rfor i.wA i.wN))).2 then ((0, 0, 0), false)
     else (i.rstep (decide ((i.rstep (decide ((i.rfor i.wA i.wN).1.2.1 > i.most)) i.most (i.rfor i.wA i.wN)).1.2.1 < i.least)) i.least (i.rstep (decide ((i.rfor i.wA i.wN).1.2.1 > i.most)) i.most (i.rfor i.wA i.wN))))
  else ((0, 0, 0), false)
def F_16 : List MV → Option MV
  | [.agg [.val (.int .i64 base), .val (.bool lA), .val (.int .i64 lN), .val (.bool wA), .val (.int .i64 wN), .val (.bool rA), .val (.int .i64 rN), .val (.int .i64 around), .val (.bool rtl), .val (.int .i64 least), .val (.int .i64 most)]] =>
    some (.tup [out3 (AIn.rsolve ⟨base, lA, lN, wA, wN, rA, rN, around, rtl, least, most⟩).1, B (AIn.rsolve ⟨base, lA, lN, wA, wN, rA, rN, around, rtl, least, most⟩).2])
  | _ => none
theorem q16 : QOk Try.prog 16 (toQ F_16) := by
  refine Q_of_x (EX_ok _) D2_ok mixed (n := 6) (fun args v h => ?_)
  unfold F_16 at h
  split at h
  · rename_i base lA lN wA wN rA rN around rtl least most
    injection h with h; subst h
    refine ⟨⟨_, rfl⟩, ⟨_, rfl⟩, ?_⟩
    refine (x16 ⟨base, lA, lN, wA, wN, rA, rN, around, rtl, least, most⟩).trans ?_
    dsimp only [AIn.rsolve, AIn.rstep, AIn.fits, out3, I, B]
    obtain ⟨o1, b1, h1⟩ : ∃ o b, AIn.rfor ⟨base, lA, lN, wA, wN, rA, rN, around, rtl, least, most⟩ wA wN = (o, b) := ⟨_, _, rfl⟩
    obtain ⟨o2, b2, h2⟩ : ∃ o b, AIn.rfor ⟨base, lA, lN, wA, wN, rA, rN, around, rtl, least, most⟩ false most = (o, b) := ⟨_, _, rfl⟩
    obtain ⟨o3, b3, h3⟩ : ∃ o b, AIn.rfor ⟨base, lA, lN, wA, wN, rA, rN, around, rtl, least, most⟩ false least = (o, b) := ⟨_, _, rfl⟩
    simp only [h1, h2, h3]
    clear h1 h2 h3
    generalize fitsB base = a1
    generalize fitsB around = a2
    generalize fitsB (orV lA lN 0) = a3
    generalize fitsB (orV wA wN 0) = a4
    generalize fitsB (orV rA rN 0) = a5
    cases a1 <;> simp only [cond_true, cond_false, Bool.not_true, Bool.not_false, Bool.true_and, Bool.false_and]
    cases a2 <;> simp only [cond_true, cond_false, Bool.not_true, Bool.not_false, Bool.true_and, Bool.false_and]
    cases a3 <;> simp only [cond_true, cond_false, Bool.not_true, Bool.not_false, Bool.true_and, Bool.false_and]
    cases a4 <;> simp only [cond_true, cond_false, Bool.not_true, Bool.not_false, Bool.true_and, Bool.false_and]
    cases a5 <;> simp only [cond_true, cond_false, Bool.not_true, Bool.not_false, Bool.true_and, Bool.false_and]
    cases b1 <;> simp only [cond_true, cond_false, Bool.not_true, Bool.not_false, Bool.true_and, Bool.false_and]
    by_cases h1 : o1.2.1 > most <;> simp only [h1, decide_true, decide_false, cond_true, cond_false] <;> clear h1
    · cases b2 <;> simp only [cond_true, cond_false, Bool.not_true, Bool.not_false, Bool.true_and, Bool.false_and]
      by_cases h2 : o2.2.1 < least <;> simp only [h2, decide_true, decide_false, cond_true, cond_false, Bool.not_true, Bool.not_false] <;> clear h2
      cases b3 <;> simp only [cond_true, cond_false, Bool.not_true, Bool.not_false]
    · by_cases h2 : o1.2.1 < least <;> simp only [h2, decide_true, decide_false, cond_true, cond_false, Bool.not_true, Bool.not_false, Bool.true_and] <;> clear h2
      cases b3 <;> simp only [cond_true, cond_false, Bool.not_true, Bool.not_false]
  · cases h
def F_true : List MV → Option MV
  | [] => some (B true)
  | _ => none
noncomputable def L0 : Ctx := addQ C0 15 F_15
theorem L0_ok : COk Try.prog L0 := addQ_ok (C0_ok _) q15 (fnOk_of Try.func15 (by kernel_rfl) (by kernel_rfl))
set_option maxRecDepth 100000 in
theorem q14 : QOk Try.prog 14 (toQ F_true) := by
  refine Q_of_x (EX_ok _) L0_ok mixed (n := 6) (fun args v h => ?_)
  unfold F_true at h
  split at h
  · injection h with h; subst h
    exact ⟨⟨_, rfl⟩, ⟨_, rfl⟩, by kernel_rfl⟩
  · cases h
noncomputable def L1 : Ctx := addI (addQ (addQ L0 16 F_16) 14 F_true) 17 (inlG Try.prog (EX Try.prog) C0 3 17)
theorem L1_ok : COk Try.prog L1 := addI_ok (addQ_ok (addQ_ok L0_ok q16 (fnOk_of Try.func16 (by kernel_rfl) (by kernel_rfl))) q14 (fnOk_of Try.func14 (by kernel_rfl) (by kernel_rfl))) (inl_ok (EX_ok _) (C0_ok _) mixed 3 _) (fnOk_of Try.func17 (by kernel_rfl) (by kernel_rfl))
set_option maxRecDepth 100000 in
theorem x3 (i : AIn) : xfun Try.prog (EX Try.prog) L1 6 3 [i.mv] [] fin =
    bif Prod.fst (Prod.fst (AIn.solve i)) == Prod.fst (Prod.fst (AIn.rsolve i)) && (Prod.fst (Prod.snd (Prod.fst (AIn.solve i))) == Prod.fst (Prod.snd (Prod.fst (AIn.rsolve i))) && (Prod.snd (Prod.snd (Prod.fst (AIn.solve i))) == Prod.snd (Prod.snd (Prod.fst (AIn.rsolve i))) && true)) then some (MV.val (Value.bool (Prod.snd (AIn.solve i) == Prod.snd (AIn.rsolve i))), []) else some (MV.val (Value.bool false), []) := by kernel_rfl
set_option maxRecDepth 100000 in
theorem x4 (i : AIn) : xfun Try.prog (EX Try.prog) L1 6 4 [i.mv] [] fin =
    bif decide (AIn.least i > AIn.most i) then some (MV.val (Value.bool true), []) else bif !Prod.snd (AIn.solve i) then some (MV.val (Value.bool true), []) else bif IntKind.wrap IntKind.i64 (IntKind.wrap IntKind.i64 (IntKind.wrap IntKind.i64 (Prod.fst (Prod.fst (AIn.solve i)) + AIn.around i) + Prod.fst (Prod.snd (Prod.fst (AIn.solve i)))) + Prod.snd (Prod.snd (Prod.fst (AIn.solve i)))) == AIn.base i then bif decide (Prod.fst (Prod.snd (Prod.fst (AIn.solve i))) ≥ AIn.least i) then some (MV.val (Value.bool (decide (Prod.fst (Prod.snd (Prod.fst (AIn.solve i))) ≤ AIn.most i))), []) else some (MV.val (Value.bool false), []) else some (MV.val (Value.bool false), []) := by kernel_rfl
set_option maxRecDepth 100000 in
theorem x5 (i : AIn) : xfun Try.prog (EX Try.prog) L1 6 5 [i.mv] [] fin =
    bif !Prod.snd (AIn.solve i) then some (MV.val (Value.bool true), []) else bif AIn.lA i then bif AIn.rA i then bif AIn.wA i then some (MV.val (Value.bool true), []) else bif Prod.fst (Prod.snd (Prod.fst (AIn.solve i))) == AIn.wN i then some (MV.val (Value.bool true), []) else bif Prod.fst (Prod.snd (Prod.fst (AIn.solve i))) == AIn.least i then some (MV.val (Value.bool true), []) else bif Prod.fst (Prod.snd (Prod.fst (AIn.solve i))) == AIn.most i then some (MV.val (Value.bool true), []) else some (MV.val (Value.bool false), []) else bif AIn.wA i then bif Prod.snd (Prod.snd (Prod.fst (AIn.solve i))) == AIn.rN i then some (MV.val (Value.bool true), []) else some (MV.val (Value.bool !AIn.rtl i), []) else bif Prod.fst (Prod.snd (Prod.fst (AIn.solve i))) == AIn.wN i then bif Prod.snd (Prod.snd (Prod.fst (AIn.solve i))) == AIn.rN i then some (MV.val (Value.bool true), []) else some (MV.val (Value.bool !AIn.rtl i), []) else bif Prod.fst (Prod.snd (Prod.fst (AIn.solve i))) == AIn.least i then bif Prod.snd (Prod.snd (Prod.fst (AIn.solve i))) == AIn.rN i then some (MV.val (Value.bool true), []) else some (MV.val (Value.bool !AIn.rtl i), []) else bif Prod.fst (Prod.snd (Prod.fst (AIn.solve i))) == AIn.most i then bif Prod.snd (Prod.snd (Prod.fst (AIn.solve i))) == AIn.rN i then some (MV.val (Value.bool true), []) else some (MV.val (Value.bool !AIn.rtl i), []) else some (MV.val (Value.bool false), []) else bif AIn.rA i then bif AIn.wA i then bif Prod.fst (Prod.fst (AIn.solve i)) == AIn.lN i then some (MV.val (Value.bool true), []) else bif AIn.rtl i then some (MV.val (Value.bool true), []) else some (MV.val (Value.bool false), []) else bif Prod.fst (Prod.snd (Prod.fst (AIn.solve i))) == AIn.wN i then bif Prod.fst (Prod.fst (AIn.solve i)) == AIn.lN i then some (MV.val (Value.bool true), []) else bif AIn.rtl i then some (MV.val (Value.bool true), []) else some (MV.val (Value.bool false), []) else bif Prod.fst (Prod.snd (Prod.fst (AIn.solve i))) == AIn.least i then bif Prod.fst (Prod.fst (AIn.solve i)) == AIn.lN i then some (MV.val (Value.bool true), []) else bif AIn.rtl i then some (MV.val (Value.bool true), []) else some (MV.val (Value.bool false), []) else bif Prod.fst (Prod.snd (Prod.fst (AIn.solve i))) == AIn.most i then bif Prod.fst (Prod.fst (AIn.solve i)) == AIn.lN i then some (MV.val (Value.bool true), []) else bif AIn.rtl i then some (MV.val (Value.bool true), []) else some (MV.val (Value.bool false), []) else some (MV.val (Value.bool false), []) else bif AIn.wA i then bif Prod.fst (Prod.fst (AIn.solve i)) == AIn.lN i then bif Prod.snd (Prod.snd (Prod.fst (AIn.solve i))) == AIn.rN i then some (MV.val (Value.bool true), []) else some (MV.val (Value.bool !AIn.rtl i), []) else bif AIn.rtl i then bif Prod.snd (Prod.snd (Prod.fst (AIn.solve i))) == AIn.rN i then some (MV.val (Value.bool true), []) else some (MV.val (Value.bool !AIn.rtl i), []) else some (MV.val (Value.bool false), []) else bif Prod.fst (Prod.snd (Prod.fst (AIn.solve i))) == AIn.wN i then bif Prod.fst (Prod.fst (AIn.solve i)) == AIn.lN i then bif Prod.snd (Prod.snd (Prod.fst (AIn.solve i))) == AIn.rN i then some (MV.val (Value.bool true), []) else some (MV.val (Value.bool !AIn.rtl i), []) else bif AIn.rtl i then bif Prod.snd (Prod.snd (Prod.fst (AIn.solve i))) == AIn.rN i then some (MV.val (Value.bool true), []) else some (MV.val (Value.bool !AIn.rtl i), []) else some (MV.val (Value.bool false), []) else bif Prod.fst (Prod.snd (Prod.fst (AIn.solve i))) == AIn.least i then bif Prod.fst (Prod.fst (AIn.solve i)) == AIn.lN i then bif Prod.snd (Prod.snd (Prod.fst (AIn.solve i))) == AIn.rN i then some (MV.val (Value.bool true), []) else some (MV.val (Value.bool !AIn.rtl i), []) else bif AIn.rtl i then bif Prod.snd (Prod.snd (Prod.fst (AIn.solve i))) == AIn.rN i then some (MV.val (Value.bool true), []) else some (MV.val (Value.bool !AIn.rtl i), []) else some (MV.val (Value.bool false), []) else bif Prod.fst (Prod.snd (Prod.fst (AIn.solve i))) == AIn.most i then bif Prod.fst (Prod.fst (AIn.solve i)) == AIn.lN i then bif Prod.snd (Prod.snd (Prod.fst (AIn.solve i))) == AIn.rN i then some (MV.val (Value.bool true), []) else some (MV.val (Value.bool !AIn.rtl i), []) else bif AIn.rtl i then bif Prod.snd (Prod.snd (Prod.fst (AIn.solve i))) == AIn.rN i then some (MV.val (Value.bool true), []) else some (MV.val (Value.bool !AIn.rtl i), []) else some (MV.val (Value.bool false), []) else some (MV.val (Value.bool false), []) := by kernel_rfl
end Go.Proofs.Ytokdpnpldoaepaa.Ac
