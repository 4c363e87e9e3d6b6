/- What is proved: contracts of a part of something, of a length, and of how far a box is moved. Conditions: none but those in each statement. -/
import Derived.Test.YtpoeebngkakmeaaX9
import Derived.Test.YtpoeebngkakmeaaProg
namespace Go.Proofs.Ytpoeebngkakmeaa.Nu
open Go Go.RowKit Go.Proofs.Ytpoeebngkakmeaa.X
set_option linter.unusedVariables false
set_option linter.unusedSimpArgs false
abbrev I (n : Int) : MV := .val (.int .i64 n)
abbrev B (b : Bool) : MV := .val (.bool b)
abbrev w6 (n : Int) : Int := IntKind.i64.wrap n
theorem mixed : Try.prog.follows .mixedOrders = true := by kernel_rfl
def orV (b : Bool) (n d : Int) : Int := bif b then d else n
def fitsB (n : Int) : Bool := decide (-1125899906842624 ≤ n) && decide (n ≤ 1125899906842624)
def F_or : List MV → Option MV
  | [.agg [.val (.bool b), .val (.int .i64 n)], .val (.int .i64 d)] => some (I (orV b n d))
  | _ => none
def F_fits : List MV → Option MV
  | [.val (.int .i64 n)] => some (B (fitsB n))
  | _ => none
set_option maxRecDepth 100000 in
theorem xOr (b : Bool) (n d : Int) : xfun Try.prog (EX Try.prog) C0 3 29 [.agg [B b, I n], I d] [] fin =
    bif b then some (MV.val (Value.int IntKind.i64 d), []) else some (MV.val (Value.int IntKind.i64 n), []) := by kernel_rfl
set_option maxRecDepth 100000 in
theorem xFits (n : Int) : xfun Try.prog (EX Try.prog) C0 3 46 [I n] [] fin =
    bif decide (n ≥ -1125899906842624) then some (MV.val (Value.bool (decide (n ≤ 1125899906842624))), []) else some (MV.val (Value.bool false), []) := by kernel_rfl
theorem qOr : QOk Try.prog 29 (toQ F_or) := by
  refine Q_of_x (EX_ok _) (C0_ok _) mixed (n := 3) (fun args v h => ?_)
  unfold F_or at h
  split at h
  · injection h with h; subst h
    refine ⟨⟨_, rfl⟩, ⟨_, rfl⟩, ?_⟩
    rename_i b n d
    refine (xOr b n d).trans ?_
    cases b <;> rfl
  · cases h
theorem qFits : QOk Try.prog 46 (toQ F_fits) := by
  refine Q_of_x (EX_ok _) (C0_ok _) mixed (n := 3) (fun args v h => ?_)
  unfold F_fits at h
  split at h
  · injection h with h; subst h
    refine ⟨⟨_, rfl⟩, ⟨_, rfl⟩, ?_⟩
    rename_i n
    refine (xFits n).trans ?_
    unfold fitsB
    by_cases h1 : -1125899906842624 ≤ n <;> simp [h1]
  · cases h
noncomputable def C1 : Ctx := addQ (addQ C0 29 F_or) 46 F_fits
theorem C1_ok : COk Try.prog C1 := addQ_ok (addQ_ok (C0_ok _) qOr (fnOk_of Try.func29 (by kernel_rfl) (by kernel_rfl))) qFits (fnOk_of Try.func46 (by kernel_rfl) (by kernel_rfl))
noncomputable def C2 : Ctx := addI C1 50 (inlG Try.prog (EX Try.prog) C1 3 50)
theorem C2_ok : COk Try.prog C2 := addI_ok C1_ok (inl_ok (EX_ok _) C1_ok mixed 3 _) (fnOk_of Try.func50 (by kernel_rfl) (by kernel_rfl))
def downV (a : Int) : Int := bif decide (Int.tmod a 10000 < 0) then w6 (w6 (Int.tdiv a 10000) - 1) else w6 (Int.tdiv a 10000)
def partN (b p : Int) : Int := w6 (w6 (w6 (Int.tdiv b 10000) * p) + downV (w6 (Int.tmod b 10000 * p)))
def partP (b p : Int) : Int × Bool :=
  bif decide (b < 0) then (0, false) else bif decide (b > 1125899906842624) then (0, false) else bif decide (p < -1000000) then (0, false) else bif decide (p > 1000000) then (0, false) else
  bif !fitsB (partN b p) then (0, false) else (partN b p, true)
def F_part : List MV → Option MV
  | [.val (.int .i64 b), .val (.int .i64 p)] => some (.tup [I (partP b p).1, B (partP b p).2])
  | _ => none
set_option maxRecDepth 100000 in
theorem xPart (b p : Int) : xfun Try.prog (EX Try.prog) C2 3 48 [I b, I p] [] fin =
    bif decide (b < 0) then some (MV.tup [MV.val (Value.int IntKind.i64 0), MV.val (Value.bool false)], []) else bif decide (b > 1125899906842624) then some (MV.tup [MV.val (Value.int IntKind.i64 0), MV.val (Value.bool false)], []) else bif decide (p < -1000000) then some (MV.tup [MV.val (Value.int IntKind.i64 0), MV.val (Value.bool false)], []) else bif decide (p > 1000000) then some (MV.tup [MV.val (Value.int IntKind.i64 0), MV.val (Value.bool false)], []) else bif decide (Int.tmod (IntKind.wrap IntKind.i64 (Int.tmod b 10000 * p)) 10000 < 0) then bif !fitsB (IntKind.wrap IntKind.i64 (IntKind.wrap IntKind.i64 (IntKind.wrap IntKind.i64 (Int.tdiv b 10000) * p) + IntKind.wrap IntKind.i64 (IntKind.wrap IntKind.i64 (Int.tdiv (IntKind.wrap IntKind.i64 (Int.tmod b 10000 * p)) 10000) - 1))) then some (MV.tup [MV.val (Value.int IntKind.i64 0), MV.val (Value.bool false)], []) else some (MV.tup [MV.val (Value.int IntKind.i64 (IntKind.wrap IntKind.i64 (IntKind.wrap IntKind.i64 (IntKind.wrap IntKind.i64 (Int.tdiv b 10000) * p) + IntKind.wrap IntKind.i64 (IntKind.wrap IntKind.i64 (Int.tdiv (IntKind.wrap IntKind.i64 (Int.tmod b 10000 * p)) 10000) - 1)))), MV.val (Value.bool true)], []) else bif !fitsB (IntKind.wrap IntKind.i64 (IntKind.wrap IntKind.i64 (IntKind.wrap IntKind.i64 (Int.tdiv b 10000) * p) + IntKind.wrap IntKind.i64 (Int.tdiv (IntKind.wrap IntKind.i64 (Int.tmod b 10000 * p)) 10000))) then some (MV.tup [MV.val (Value.int IntKind.i64 0), MV.val (Value.bool false)], []) else some (MV.tup [MV.val (Value.int IntKind.i64 (IntKind.wrap IntKind.i64 (IntKind.wrap IntKind.i64 (IntKind.wrap IntKind.i64 (Int.tdiv b 10000) * p) + IntKind.wrap IntKind.i64 (Int.tdiv (IntKind.wrap IntKind.i64 (Int.tmod b 10000 * p)) 10000)))), MV.val (Value.bool true)], []) := by kernel_rfl
theorem qPart : QOk Try.prog 48 (toQ F_part) := by
  refine Q_of_x (EX_ok _) C2_ok mixed (n := 3) (fun args v h => ?_)
  unfold F_part at h
  split at h
  · injection h with h; subst h
    refine ⟨⟨_, rfl⟩, ⟨_, rfl⟩, ?_⟩
    rename_i b p
    refine (xPart b p).trans ?_
    dsimp only [partP, partN, downV, I, B, w6]
    by_cases h1 : b < 0 <;> simp only [h1, decide_true, decide_false, cond_true, cond_false]
    by_cases h2 : b > 1125899906842624 <;> simp only [h2, decide_true, decide_false, cond_true, cond_false]
    by_cases h3 : p < -1000000 <;> simp only [h3, decide_true, decide_false, cond_true, cond_false]
    by_cases h4 : p > 1000000 <;> simp only [h4, decide_true, decide_false, cond_true, cond_false]
    by_cases h5 : Int.tmod (IntKind.i64.wrap (Int.tmod b 10000 * p)) 10000 < 0 <;> simp only [h5, decide_true, decide_false, cond_true, cond_false]
    all_goals generalize fitsB _ = f <;> cases f <;> simp only [Bool.not_true, Bool.not_false, cond_true, cond_false]
  · cases h
noncomputable def C3 : Ctx := addQ C1 48 F_part
theorem C3_ok : COk Try.prog C3 := addQ_ok C1_ok qPart (fnOk_of Try.func48 (by kernel_rfl) (by kernel_rfl))
def ofP (k n b : Int) (has : Bool) : (Bool × Int) × Bool :=
  bif k == 0 then ((true, 0), true) else bif (k == 2) && !has then ((true, 0), true) else bif (k == 1) && fitsB n then ((false, n), true) else bif k == 2 then ((false, (partP b n).1), (partP b n).2) else ((false, 0), false)
def F_of : List MV → Option MV
  | [.agg [.val (.int .i64 k), .val (.int .i64 n)], .val (.int .i64 b), .val (.bool has)] => some (.tup [.agg [B (ofP k n b has).1.1, I (ofP k n b has).1.2], B (ofP k n b has).2])
  | _ => none
set_option maxRecDepth 100000 in
theorem xOf (k n b : Int) (has : Bool) : xfun Try.prog (EX Try.prog) C3 3 41 [.agg [I k, I n], I b, B has] [] fin =
    bif k == 0 then some (MV.tup [MV.agg [MV.val (Value.bool true), MV.val (Value.int IntKind.i64 0)], MV.val (Value.bool true)], []) else bif k == 2 then bif !has then some (MV.tup [MV.agg [MV.val (Value.bool true), MV.val (Value.int IntKind.i64 0)], MV.val (Value.bool true)], []) else bif k == 1 then bif fitsB n then some (MV.tup [MV.agg [MV.val (Value.bool false), MV.val (Value.int IntKind.i64 n)], MV.val (Value.bool true)], []) else bif k == 2 then some (MV.tup [MV.agg [MV.val (Value.bool false), MV.val (Value.int IntKind.i64 (Prod.fst (partP b n)))], MV.val (Value.bool (Prod.snd (partP b n)))], []) else some (MV.tup [MV.agg [MV.val (Value.bool false), MV.val (Value.int IntKind.i64 0)], MV.val (Value.bool false)], []) else bif k == 2 then some (MV.tup [MV.agg [MV.val (Value.bool false), MV.val (Value.int IntKind.i64 (Prod.fst (partP b n)))], MV.val (Value.bool (Prod.snd (partP b n)))], []) else some (MV.tup [MV.agg [MV.val (Value.bool false), MV.val (Value.int IntKind.i64 0)], MV.val (Value.bool false)], []) else bif k == 1 then bif fitsB n then some (MV.tup [MV.agg [MV.val (Value.bool false), MV.val (Value.int IntKind.i64 n)], MV.val (Value.bool true)], []) else bif k == 2 then some (MV.tup [MV.agg [MV.val (Value.bool false), MV.val (Value.int IntKind.i64 (Prod.fst (partP b n)))], MV.val (Value.bool (Prod.snd (partP b n)))], []) else some (MV.tup [MV.agg [MV.val (Value.bool false), MV.val (Value.int IntKind.i64 0)], MV.val (Value.bool false)], []) else bif k == 2 then some (MV.tup [MV.agg [MV.val (Value.bool false), MV.val (Value.int IntKind.i64 (Prod.fst (partP b n)))], MV.val (Value.bool (Prod.snd (partP b n)))], []) else some (MV.tup [MV.agg [MV.val (Value.bool false), MV.val (Value.int IntKind.i64 0)], MV.val (Value.bool false)], []) := by kernel_rfl
theorem qOf : QOk Try.prog 41 (toQ F_of) := by
  refine Q_of_x (EX_ok _) C3_ok mixed (n := 3) (fun args v h => ?_)
  unfold F_of at h
  split at h
  · injection h with h; subst h
    refine ⟨⟨_, rfl⟩, ⟨_, rfl⟩, ?_⟩
    rename_i k n b has
    refine (xOf k n b has).trans ?_
    dsimp only [ofP, I, B]
    generalize (k == 0) = a
    generalize (k == 1) = c
    generalize (k == 2) = d
    generalize fitsB n = f
    cases a <;> cases c <;> cases d <;> cases has <;> cases f <;> simp only [Bool.not_true, Bool.not_false, cond_true, cond_false, Bool.true_and, Bool.false_and, Bool.and_true, Bool.and_false]
  · cases h
end Go.Proofs.Ytpoeebngkakmeaa.Nu
