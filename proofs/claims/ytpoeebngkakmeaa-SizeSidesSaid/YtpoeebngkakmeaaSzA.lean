/- What is proved: contracts of a part of something and of a length, of the document's text: they answer as the program's do. Conditions: none but those in each statement. -/
import Derived.Test.YtpoeebngkakmeaaNuA
import Derived.Test.YtpoeebngkakmeaaSzP
namespace Go.Proofs.Ytpoeebngkakmeaa.Sz
open Go Go.RowKit Go.Proofs.Ytpoeebngkakmeaa.X Go.Proofs.Ytpoeebngkakmeaa.Nu Go.Proofs.Ytpoeebngkakmeaa.SzP Go.Proofs.Ytpoeebngkakmeaa.PSizeSides Go.Proofs.YtpoeebngkakmeaaW.PrintWords
set_option linter.unusedVariables false
set_option linter.unusedSimpArgs false
theorem w6i {n : Int} (h0 : -9223372036854775808 ≤ n) (h1 : n ≤ 9223372036854775807) : w6 n = n := by
  show IntKind.i64.wrap n = n
  rw [IntKind.wrap_i64]; omega
theorem downV_eq (x : Int) (h1 : -9223372036854775808 ≤ x) (h2 : x ≤ 9223372036854775807) : downV x = x / 10000 := by
  unfold downV
  by_cases hx : 0 ≤ x
  · rw [Int.tmod_eq_emod_of_nonneg hx, Int.tdiv_eq_ediv_of_nonneg hx, decide_eq_false (by omega), cond_false]; exact w6i (by omega) (by omega)
  · have hd : Int.tdiv x 10000 = -((-x) / 10000) := by rw [← Int.tdiv_eq_ediv_of_nonneg (by omega), Int.neg_tdiv, Int.neg_neg]
    have hm : Int.tmod x 10000 = -((-x) % 10000) := by
      have := Int.tmod_add_mul_tdiv x 10000
      rw [hd] at this
      omega
    rw [hd, hm]
    have e : w6 (-(-x / 10000)) = -(-x / 10000) := w6i (by omega) (by omega)
    rw [e]
    by_cases h0 : -(-x % 10000) < 0
    · rw [decide_eq_true h0, cond_true, w6i (by omega) (by omega)]; omega
    · rw [decide_eq_false h0, cond_false]; omega
theorem part_split (a p : Int) : a / 10000 * p + (a % 10000 * p) / 10000 = SzP.part a p := by
  unfold SzP.part
  have h : a * p = a % 10000 * p + 10000 * (a / 10000 * p) := by
    have h0 : a = a % 10000 + 10000 * (a / 10000) := (Int.emod_add_mul_ediv a 10000).symm
    have h1 : a * p = (a % 10000 + 10000 * (a / 10000)) * p := by rw [← h0]
    rw [h1, Int.add_mul, Int.mul_assoc]
  rw [h, Int.add_mul_ediv_left _ _ (by decide)]
  omega
theorem partN_eq (a p : Int) (h1 : 0 ≤ a) (h2 : a ≤ 1125899906842624) (h3 : -1000000 ≤ p) (h4 : p ≤ 1000000) : partN a p = SzP.part a p := by
  have hq := mul_bd (a := a / 10000) (A := 112589990685) (b := p) (B := 1000000) (by omega) (by omega) h3 h4
  have hr := mul_bd (a := a % 10000) (A := 9999) (b := p) (B := 1000000) (by omega) (by omega) h3 h4
  have hs := part_split a p
  unfold partN
  rw [Int.tmod_eq_emod_of_nonneg h1, Int.tdiv_eq_ediv_of_nonneg h1]
  have e1 : w6 (a / 10000) = a / 10000 := w6i (by omega) (by omega)
  have e2 : w6 (a / 10000 * p) = a / 10000 * p := w6i (by omega) (by omega)
  have e3 : w6 (a % 10000 * p) = a % 10000 * p := w6i (by omega) (by omega)
  rw [e1, e2, e3, downV_eq _ (by omega) (by omega), hs]
  exact w6i (by omega) (by omega)
theorem ref_part (a p : Int) : decoupageref01_Part.f 20 a p = some (partP a p) := by
  by_cases h : 0 ≤ a ∧ a ≤ 1125899906842624 ∧ -1000000 ≤ p ∧ p ≤ 1000000
  · obtain ⟨h1, h2, h3, h4⟩ := h
    rw [refpart_ok a p h1 h2 h3 h4]
    unfold partP
    rw [decide_eq_false (by omega), decide_eq_false (by omega), decide_eq_false (by omega), decide_eq_false (by omega), partN_eq a p h1 h2 h3 h4]
    simp only [cond_false]
    unfold fitsB
    by_cases hf : -1125899906842624 ≤ SzP.part a p ∧ SzP.part a p ≤ 1125899906842624
    · rw [if_pos hf, decide_eq_true hf.1, decide_eq_true hf.2]; rfl
    · rw [if_neg hf]
      have : (decide (-1125899906842624 ≤ SzP.part a p) && decide (SzP.part a p ≤ 1125899906842624)) = false := by
        simp only [Bool.and_eq_false_iff, decide_eq_false_iff_not]
        omega
      rw [this]; rfl
  · rw [refpart_out a p h]
    unfold partP
    by_cases p1 : a < 0
    · rw [decide_eq_true p1]; rfl
    by_cases p2 : a > 1125899906842624
    · rw [decide_eq_false p1, decide_eq_true p2]; rfl
    by_cases p3 : p < -1000000
    · rw [decide_eq_false p1, decide_eq_false p2, decide_eq_true p3]; rfl
    · rw [decide_eq_false p1, decide_eq_false p2, decide_eq_false p3, decide_eq_true (by omega)]; rfl
theorem qPart' : QOk Try.prog 49 (toQ F_part) := by
  refine Q_of (fun args v h => ?_)
  unfold F_part at h
  split at h
  · rename_i b p
    injection h with h; subst h
    refine ⟨_, .tuple #[.int .i64 (partP b p).1, .bool (partP b p).2], rfl, rfl, fun w => ?_⟩
    refine Calls.mono (decoupageref01_Part.calls 20 b p (partP b p).1 (partP b p).2 w (ref_part b p)) ?_
    rintro e w' ⟨rfl, hd⟩
    exact ⟨rfl, hd.below⟩
  · cases h
set_option maxRecDepth 100000 in
theorem yFits (n : Int) : xfun Try.prog (EX Try.prog) C0 3 47 [I n] [] fin =
    bif decide (n ≥ -1125899906842624) then some (MV.val (Value.bool (decide (n ≤ 1125899906842624))), []) else some (MV.val (Value.bool false), []) := by kernel_rfl
theorem qFits' : QOk Try.prog 47 (toQ F_fits) := by
  refine Q_of_x (EX_ok _) (C0_ok _) mixed (n := 3) (fun args v h => ?_)
  unfold F_fits at h
  split at h
  · injection h with h; subst h
    refine ⟨⟨_, rfl⟩, ⟨_, rfl⟩, ?_⟩
    rename_i n
    refine (yFits n).trans ?_
    unfold fitsB
    by_cases h1 : -1125899906842624 ≤ n <;> simp [h1]
  · cases h
noncomputable def R1 : Ctx := addQ (addQ C0 47 F_fits) 49 F_part
theorem R1_ok : COk Try.prog R1 := addQ_ok (addQ_ok (C0_ok _) qFits' (fnOk_of Try.func47 (by kernel_rfl) (by kernel_rfl))) qPart' (fnOk_of Try.func49 (by kernel_rfl) (by kernel_rfl))
set_option maxRecDepth 100000 in
theorem yOf (k n b : Int) (has : Bool) : xfun Try.prog (EX Try.prog) R1 3 45 [.agg [I k, I n], I b, B has] [] fin =
    bif k == 0 then some (MV.tup [MV.agg [MV.val (Value.bool true), MV.val (Value.int IntKind.i64 0)], MV.val (Value.bool true)], []) else bif k == 2 then bif !has then some (MV.tup [MV.agg [MV.val (Value.bool true), MV.val (Value.int IntKind.i64 0)], MV.val (Value.bool true)], []) else bif k == 1 then bif k == 2 then bif !Prod.snd (partP b n) then some (MV.tup [MV.agg [MV.val (Value.bool false), MV.val (Value.int IntKind.i64 0)], MV.val (Value.bool false)], []) else some (MV.tup [MV.agg [MV.val (Value.bool false), MV.val (Value.int IntKind.i64 (Prod.fst (partP b n)))], MV.val (Value.bool true)], []) else bif !fitsB n then some (MV.tup [MV.agg [MV.val (Value.bool false), MV.val (Value.int IntKind.i64 0)], MV.val (Value.bool false)], []) else some (MV.tup [MV.agg [MV.val (Value.bool false), MV.val (Value.int IntKind.i64 n)], MV.val (Value.bool true)], []) else bif k == 2 then bif !Prod.snd (partP b n) then some (MV.tup [MV.agg [MV.val (Value.bool false), MV.val (Value.int IntKind.i64 0)], MV.val (Value.bool false)], []) else some (MV.tup [MV.agg [MV.val (Value.bool false), MV.val (Value.int IntKind.i64 (Prod.fst (partP b n)))], MV.val (Value.bool true)], []) else some (MV.tup [MV.agg [MV.val (Value.bool false), MV.val (Value.int IntKind.i64 0)], MV.val (Value.bool false)], []) else bif k == 1 then bif k == 2 then bif !Prod.snd (partP b n) then some (MV.tup [MV.agg [MV.val (Value.bool false), MV.val (Value.int IntKind.i64 0)], MV.val (Value.bool false)], []) else some (MV.tup [MV.agg [MV.val (Value.bool false), MV.val (Value.int IntKind.i64 (Prod.fst (partP b n)))], MV.val (Value.bool true)], []) else bif !fitsB n then some (MV.tup [MV.agg [MV.val (Value.bool false), MV.val (Value.int IntKind.i64 0)], MV.val (Value.bool false)], []) else some (MV.tup [MV.agg [MV.val (Value.bool false), MV.val (Value.int IntKind.i64 n)], MV.val (Value.bool true)], []) else bif k == 2 then bif !Prod.snd (partP b n) then some (MV.tup [MV.agg [MV.val (Value.bool false), MV.val (Value.int IntKind.i64 0)], MV.val (Value.bool false)], []) else some (MV.tup [MV.agg [MV.val (Value.bool false), MV.val (Value.int IntKind.i64 (Prod.fst (partP b n)))], MV.val (Value.bool true)], []) else some (MV.tup [MV.agg [MV.val (Value.bool false), MV.val (Value.int IntKind.i64 0)], MV.val (Value.bool false)], []) := by kernel_rfl
theorem part_no (b p : Int) : (partP b p).2 = false → (partP b p).1 = 0 := by
  unfold partP
  generalize decide (b < 0) = a1
  generalize decide (b > 1125899906842624) = a2
  generalize decide (p < -1000000) = a3
  generalize decide (p > 1000000) = a4
  generalize fitsB (partN b p) = a5
  cases a1 <;> cases a2 <;> cases a3 <;> cases a4 <;> cases a5 <;> simp
theorem qOf' : QOk Try.prog 45 (toQ F_of) := by
  refine Q_of_x (EX_ok _) R1_ok mixed (n := 3) (fun args v h => ?_)
  unfold F_of at h
  split at h
  · injection h with h; subst h
    refine ⟨⟨_, rfl⟩, ⟨_, rfl⟩, ?_⟩
    rename_i k n b has
    refine (yOf k n b has).trans ?_
    have hn := part_no b n
    dsimp only [ofP, I, B]
    by_cases c0 : k = 0
    · subst c0; simp
    · by_cases c2 : k = 2
      · subst c2
        obtain ⟨q, ok, e⟩ : ∃ q ok, partP b n = (q, ok) := ⟨_, _, rfl⟩
        rw [e] at hn ⊢
        cases has <;> cases ok <;> simp_all
      · by_cases c1 : k = 1
        · subst c1
          cases hf : fitsB n <;> simp [hf]
        · have e0 : (k == 0) = false := by simpa using c0
          have e1 : (k == 1) = false := by simpa using c1
          have e2 : (k == 2) = false := by simpa using c2
          simp only [e0, e1, e2, cond_false, Bool.false_and]
  · cases h
noncomputable def S1 : Ctx := addQ C0 41 F_of
theorem S1_ok : COk Try.prog S1 := addQ_ok (C0_ok _) qOf (fnOk_of Try.func41 (by kernel_rfl) (by kernel_rfl))
noncomputable def T1 : Ctx := addQ C0 45 F_of
theorem T1_ok : COk Try.prog T1 := addQ_ok (C0_ok _) qOf' (fnOk_of Try.func45 (by kernel_rfl) (by kernel_rfl))
def sidesV (l : List (Int × Int)) (b : Int) : List ((Bool × Int) × Bool) := l.map fun x => ofP x.1 x.2 b true
def allV (o0 o1 o2 o3 : (Bool × Int) × Bool) : Bool := o0.2 && (o1.2 && (o2.2 && o3.2))
def autoV (q : Bool) (o : (Bool × Int) × Bool) : Bool := bif q then o.1.1 else false
def numV (q : Bool) (o : (Bool × Int) × Bool) : Int := bif q then o.1.2 else 0
def outV (q : Bool) (o0 o1 o2 o3 : (Bool × Int) × Bool) : MV := .tup [.agg [B (autoV q o0), I (numV q o0), B (autoV q o1), I (numV q o1), B (autoV q o2), I (numV q o2), B (autoV q o3), I (numV q o3)], B q]
def F_sides : List MV → Option MV
  | [.agg [.val (.int .i64 k0), .val (.int .i64 n0), .val (.int .i64 k1), .val (.int .i64 n1), .val (.int .i64 k2), .val (.int .i64 n2), .val (.int .i64 k3), .val (.int .i64 n3)], .val (.int .i64 b)] =>
    some (outV (allV (ofP k0 n0 b true) (ofP k1 n1 b true) (ofP k2 n2 b true) (ofP k3 n3 b true)) (ofP k0 n0 b true) (ofP k1 n1 b true) (ofP k2 n2 b true) (ofP k3 n3 b true))
  | _ => none
set_option maxRecDepth 100000 in
theorem xSides (k0 n0 k1 n1 k2 n2 k3 n3 b : Int) : xfun Try.prog (EX Try.prog) S1 6 35 [.agg [I k0, I n0, I k1, I n1, I k2, I n2, I k3, I n3], I b] [] fin =
    bif !Prod.snd (ofP k0 n0 b true) then some (MV.tup [MV.agg [MV.val (Value.bool false), MV.val (Value.int IntKind.i64 0), MV.val (Value.bool false), MV.val (Value.int IntKind.i64 0), MV.val (Value.bool false), MV.val (Value.int IntKind.i64 0), MV.val (Value.bool false), MV.val (Value.int IntKind.i64 0)], MV.val (Value.bool false)], []) else bif !Prod.snd (ofP k1 n1 b true) then some (MV.tup [MV.agg [MV.val (Value.bool false), MV.val (Value.int IntKind.i64 0), MV.val (Value.bool false), MV.val (Value.int IntKind.i64 0), MV.val (Value.bool false), MV.val (Value.int IntKind.i64 0), MV.val (Value.bool false), MV.val (Value.int IntKind.i64 0)], MV.val (Value.bool false)], []) else bif !Prod.snd (ofP k2 n2 b true) then some (MV.tup [MV.agg [MV.val (Value.bool false), MV.val (Value.int IntKind.i64 0), MV.val (Value.bool false), MV.val (Value.int IntKind.i64 0), MV.val (Value.bool false), MV.val (Value.int IntKind.i64 0), MV.val (Value.bool false), MV.val (Value.int IntKind.i64 0)], MV.val (Value.bool false)], []) else bif !Prod.snd (ofP k3 n3 b true) then some (MV.tup [MV.agg [MV.val (Value.bool false), MV.val (Value.int IntKind.i64 0), MV.val (Value.bool false), MV.val (Value.int IntKind.i64 0), MV.val (Value.bool false), MV.val (Value.int IntKind.i64 0), MV.val (Value.bool false), MV.val (Value.int IntKind.i64 0)], MV.val (Value.bool false)], []) else some (MV.tup [MV.agg [MV.val (Value.bool (Prod.fst (Prod.fst (ofP k0 n0 b true)))), MV.val (Value.int IntKind.i64 (Prod.snd (Prod.fst (ofP k0 n0 b true)))), MV.val (Value.bool (Prod.fst (Prod.fst (ofP k1 n1 b true)))), MV.val (Value.int IntKind.i64 (Prod.snd (Prod.fst (ofP k1 n1 b true)))), MV.val (Value.bool (Prod.fst (Prod.fst (ofP k2 n2 b true)))), MV.val (Value.int IntKind.i64 (Prod.snd (Prod.fst (ofP k2 n2 b true)))), MV.val (Value.bool (Prod.fst (Prod.fst (ofP k3 n3 b true)))), MV.val (Value.int IntKind.i64 (Prod.snd (Prod.fst (ofP k3 n3 b true))))], MV.val (Value.bool true)], []) := by kernel_rfl
set_option maxRecDepth 100000 in
theorem ySides (k0 n0 k1 n1 k2 n2 k3 n3 b : Int) : xfun Try.prog (EX Try.prog) T1 6 36 [.agg [I k0, I n0, I k1, I n1, I k2, I n2, I k3, I n3], I b] [] fin =
    bif Prod.snd (ofP k0 n0 b true) then bif Prod.snd (ofP k1 n1 b true) then bif Prod.snd (ofP k2 n2 b true) then bif !Prod.snd (ofP k3 n3 b true) then some (MV.tup [MV.agg [MV.val (Value.bool false), MV.val (Value.int IntKind.i64 0), MV.val (Value.bool false), MV.val (Value.int IntKind.i64 0), MV.val (Value.bool false), MV.val (Value.int IntKind.i64 0), MV.val (Value.bool false), MV.val (Value.int IntKind.i64 0)], MV.val (Value.bool false)], []) else some (MV.tup [MV.agg [MV.val (Value.bool (Prod.fst (Prod.fst (ofP k0 n0 b true)))), MV.val (Value.int IntKind.i64 (Prod.snd (Prod.fst (ofP k0 n0 b true)))), MV.val (Value.bool (Prod.fst (Prod.fst (ofP k1 n1 b true)))), MV.val (Value.int IntKind.i64 (Prod.snd (Prod.fst (ofP k1 n1 b true)))), MV.val (Value.bool (Prod.fst (Prod.fst (ofP k2 n2 b true)))), MV.val (Value.int IntKind.i64 (Prod.snd (Prod.fst (ofP k2 n2 b true)))), MV.val (Value.bool (Prod.fst (Prod.fst (ofP k3 n3 b true)))), MV.val (Value.int IntKind.i64 (Prod.snd (Prod.fst (ofP k3 n3 b true))))], MV.val (Value.bool true)], []) else some (MV.tup [MV.agg [MV.val (Value.bool false), MV.val (Value.int IntKind.i64 0), MV.val (Value.bool false), MV.val (Value.int IntKind.i64 0), MV.val (Value.bool false), MV.val (Value.int IntKind.i64 0), MV.val (Value.bool false), MV.val (Value.int IntKind.i64 0)], MV.val (Value.bool false)], []) else some (MV.tup [MV.agg [MV.val (Value.bool false), MV.val (Value.int IntKind.i64 0), MV.val (Value.bool false), MV.val (Value.int IntKind.i64 0), MV.val (Value.bool false), MV.val (Value.int IntKind.i64 0), MV.val (Value.bool false), MV.val (Value.int IntKind.i64 0)], MV.val (Value.bool false)], []) else some (MV.tup [MV.agg [MV.val (Value.bool false), MV.val (Value.int IntKind.i64 0), MV.val (Value.bool false), MV.val (Value.int IntKind.i64 0), MV.val (Value.bool false), MV.val (Value.int IntKind.i64 0), MV.val (Value.bool false), MV.val (Value.int IntKind.i64 0)], MV.val (Value.bool false)], []) := by kernel_rfl
theorem qSides : QOk Try.prog 35 (toQ F_sides) := by
  refine Q_of_x (EX_ok _) S1_ok mixed (n := 6) (fun args v h => ?_)
  unfold F_sides at h
  split at h
  · rename_i k0 n0 k1 n1 k2 n2 k3 n3 b
    injection h with h; subst h
    refine ⟨⟨_, rfl⟩, ⟨_, rfl⟩, (xSides k0 n0 k1 n1 k2 n2 k3 n3 b).trans ?_⟩
    unfold outV allV
    generalize ofP k0 n0 b true = o0
    generalize ofP k1 n1 b true = o1
    generalize ofP k2 n2 b true = o2
    generalize ofP k3 n3 b true = o3
    obtain ⟨⟨a0, m0⟩, q0⟩ := o0
    obtain ⟨⟨a1, m1⟩, q1⟩ := o1
    obtain ⟨⟨a2, m2⟩, q2⟩ := o2
    obtain ⟨⟨a3, m3⟩, q3⟩ := o3
    cases q0 <;> cases q1 <;> cases q2 <;> cases q3 <;> rfl
  · cases h
theorem qSides' : QOk Try.prog 36 (toQ F_sides) := by
  refine Q_of_x (EX_ok _) T1_ok mixed (n := 6) (fun args v h => ?_)
  unfold F_sides at h
  split at h
  · rename_i k0 n0 k1 n1 k2 n2 k3 n3 b
    injection h with h; subst h
    refine ⟨⟨_, rfl⟩, ⟨_, rfl⟩, (ySides k0 n0 k1 n1 k2 n2 k3 n3 b).trans ?_⟩
    unfold outV allV
    generalize ofP k0 n0 b true = o0
    generalize ofP k1 n1 b true = o1
    generalize ofP k2 n2 b true = o2
    generalize ofP k3 n3 b true = o3
    obtain ⟨⟨a0, m0⟩, q0⟩ := o0
    obtain ⟨⟨a1, m1⟩, q1⟩ := o1
    obtain ⟨⟨a2, m2⟩, q2⟩ := o2
    obtain ⟨⟨a3, m3⟩, q3⟩ := o3
    cases q0 <;> cases q1 <;> cases q2 <;> cases q3 <;> rfl
  · cases h
def F_true : List MV → Option MV
  | [] => some (B true)
  | _ => none
set_option maxRecDepth 100000 in
theorem qAwake : QOk Try.prog 28 (toQ F_true) := by
  refine Q_of_x (EX_ok _) S1_ok mixed (n := 6) (fun args v h => ?_)
  unfold F_true at h
  split at h
  · injection h with h; subst h
    exact ⟨⟨_, rfl⟩, ⟨_, rfl⟩, by kernel_rfl⟩
  · cases h
end Go.Proofs.Ytpoeebngkakmeaa.Sz
