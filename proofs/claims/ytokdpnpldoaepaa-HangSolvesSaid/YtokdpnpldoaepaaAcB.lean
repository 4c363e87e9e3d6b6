/- What is proved: contracts of the innermost functions that across, hang and drop share. Conditions: none but those in each statement. -/
import Derived.Test.YtokdpnpldoaepaaAcA
namespace Go.Proofs.Ytokdpnpldoaepaa.Ac
open Go Go.RowKit Go.Proofs.Ytokdpnpldoaepaa.X
set_option linter.unusedVariables false
set_option linter.unusedSimpArgs false
set_option maxRecDepth 100000 in
theorem x29 (b : Bool) (n d : Int) : xfun Try.prog (EX Try.prog) C0 3 29 [.agg [B b, I n], I d] [] fin =
    bif b then some (MV.val (Value.int IntKind.i64 d), []) else some (MV.val (Value.int IntKind.i64 n), []) := by kernel_rfl
set_option maxRecDepth 100000 in
theorem x33 (b : Bool) (n d : Int) : xfun Try.prog (EX Try.prog) C0 3 33 [.agg [B b, I n], I d] [] fin =
    bif !b then some (MV.val (Value.int IntKind.i64 n), []) else some (MV.val (Value.int IntKind.i64 d), []) := by kernel_rfl
set_option maxRecDepth 100000 in
theorem x30 (n : Int) : xfun Try.prog (EX Try.prog) C0 3 30 [I n] [] fin =
    bif decide (n ≥ -1125899906842624) then some (MV.val (Value.bool (decide (n ≤ 1125899906842624))), []) else some (MV.val (Value.bool false), []) := by kernel_rfl
set_option maxRecDepth 100000 in
theorem x34 (n : Int) : xfun Try.prog (EX Try.prog) C0 3 34 [I n] [] fin =
    bif decide (n ≥ -1125899906842624) then some (MV.val (Value.bool (decide (n ≤ 1125899906842624))), []) else some (MV.val (Value.bool false), []) := by kernel_rfl
set_option maxRecDepth 100000 in
theorem x54 (n : Int) : xfun Try.prog (EX Try.prog) C0 3 54 [I n] [] fin =
    some (MV.val (Value.int IntKind.i64 (Int.fdiv n (2 ^ min (Int.toNat 1) (IntKind.bits IntKind.i64)))), []) := by kernel_rfl
set_option maxRecDepth 100000 in
theorem x47 (n : Int) : xfun Try.prog (EX Try.prog) C0 3 47 [I n] [] fin =
    bif decide (n < 0) then bif Int.tmod n 2 != 0 then some (MV.val (Value.int IntKind.i64 (IntKind.wrap IntKind.i64 (IntKind.wrap IntKind.i64 (Int.tdiv n 2) - 1))), []) else some (MV.val (Value.int IntKind.i64 (IntKind.wrap IntKind.i64 (Int.tdiv n 2))), []) else some (MV.val (Value.int IntKind.i64 (IntKind.wrap IntKind.i64 (Int.tdiv n 2))), []) := by kernel_rfl
theorem tdiv2_neg (n : Int) (h : n < 0) : n.tdiv 2 = -((-n) / 2) := by
  have e : n = -(-n) := by omega
  rw [e, Int.neg_tdiv, Int.tdiv_eq_ediv_of_nonneg (by omega)]
  simp
theorem tmod2_neg (n : Int) (h : n < 0) : n.tmod 2 = -((-n) % 2) := by
  have e : n = -(-n) := by omega
  rw [e, Int.neg_tmod, Int.tmod_eq_emod_of_nonneg (by omega)]
  simp
def w64 (n : Int) : Int := (n + 9223372036854775808) % 18446744073709551616 - 9223372036854775808
theorem wrap_w (n : Int) : IntKind.i64.wrap n = w64 n := by
  unfold w64
  have e : IntKind.i64.wrap n = if (n % 18446744073709551616 : Int) ≥ 9223372036854775808 then n % 18446744073709551616 - 18446744073709551616 else n % 18446744073709551616 := by
    simp [IntKind.wrap, IntKind.bits, IntKind.signed]
  rw [e]
  split <;> omega
theorem wrap_id {n : Int} (h0 : -9223372036854775808 ≤ n) (h1 : n ≤ 9223372036854775807) : IntKind.i64.wrap n = n := by
  rw [wrap_w]; unfold w64; omega
def I64 (n : Int) : Prop := -9223372036854775808 ≤ n ∧ n ≤ 9223372036854775807
theorem wrap_I64 (n : Int) : I64 (IntKind.i64.wrap n) := by rw [wrap_w]; unfold w64 I64; omega
theorem q29 : QOk Try.prog 29 (toQ F_or) := by
  refine Q_of_x (EX_ok _) (C0_ok _) mixed (n := 3) (fun args v h => ?_)
  unfold F_or at h
  split at h
  · injection h with h; subst h
    refine ⟨⟨_, rfl⟩, ⟨_, rfl⟩, ?_⟩
    rename_i b n d
    refine (x29 b n d).trans ?_
    cases b <;> rfl
  · cases h
theorem q33 : QOk Try.prog 33 (toQ F_or) := by
  refine Q_of_x (EX_ok _) (C0_ok _) mixed (n := 3) (fun args v h => ?_)
  unfold F_or at h
  split at h
  · injection h with h; subst h
    refine ⟨⟨_, rfl⟩, ⟨_, rfl⟩, ?_⟩
    rename_i b n d
    refine (x33 b n d).trans ?_
    cases b <;> rfl
  · cases h
theorem q30 : QOk Try.prog 30 (toQ F_fits) := by
  refine Q_of_x (EX_ok _) (C0_ok _) mixed (n := 3) (fun args v h => ?_)
  unfold F_fits at h
  split at h
  · injection h with h; subst h
    refine ⟨⟨_, rfl⟩, ⟨_, rfl⟩, ?_⟩
    rename_i n
    refine (x30 n).trans ?_
    unfold fitsB
    by_cases h1 : -1125899906842624 ≤ n <;> simp [h1]
  · cases h
theorem q34 : QOk Try.prog 34 (toQ F_fits) := by
  refine Q_of_x (EX_ok _) (C0_ok _) mixed (n := 3) (fun args v h => ?_)
  unfold F_fits at h
  split at h
  · injection h with h; subst h
    refine ⟨⟨_, rfl⟩, ⟨_, rfl⟩, ?_⟩
    rename_i n
    refine (x34 n).trans ?_
    unfold fitsB
    by_cases h1 : -1125899906842624 ≤ n <;> simp [h1]
  · cases h
theorem q54 : QOk Try.prog 54 (toQ F_half) := by
  refine Q_of_x (EX_ok _) (C0_ok _) mixed (n := 3) (fun args v h => ?_)
  unfold F_half at h
  split at h
  · injection h with h; subst h
    refine ⟨⟨_, rfl⟩, ⟨_, rfl⟩, ?_⟩
    rename_i n
    refine (x54 n).trans ?_
    have e : Int.fdiv n (2 ^ min (Int.toNat 1) (IntKind.bits IntKind.i64)) = n / 2 := by
      show Int.fdiv n 2 = n / 2
      rw [Int.fdiv_eq_ediv_of_nonneg _ (by omega)]
    rw [e]
  · cases h
/-- Half, of the other text. -/
def refHalf (n : Int) : Int :=
  bif decide (n < 0) then (bif Int.tmod n 2 != 0 then IntKind.i64.wrap (IntKind.i64.wrap (Int.tdiv n 2) - 1) else IntKind.i64.wrap (Int.tdiv n 2)) else IntKind.i64.wrap (Int.tdiv n 2)
def F_half' : List MV → Option MV
  | [.val (.int .i64 n)] => some (I (refHalf n))
  | _ => none
theorem q47 : QOk Try.prog 47 (toQ F_half') := by
  refine Q_of_x (EX_ok _) (C0_ok _) mixed (n := 3) (fun args v h => ?_)
  unfold F_half' at h
  split at h
  · rename_i n
    injection h with h; subst h
    refine ⟨⟨_, rfl⟩, ⟨_, rfl⟩, ?_⟩
    refine (x47 n).trans ?_
    unfold refHalf
    by_cases h0 : n < 0 <;> simp only [h0, decide_true, decide_false, cond_true, cond_false]
    cases (Int.tmod n 2 != 0) <;> rfl
  · cases h
theorem refHalf_eq (n : Int) (hb : I64 n) : refHalf n = n / 2 := by
  obtain ⟨b0, b1⟩ := hb
  unfold refHalf
  by_cases h0 : n < 0
  · have t1 := tdiv2_neg n h0
    have t2 := tmod2_neg n h0
    have e1 : IntKind.i64.wrap (-((-n) / 2)) = -((-n) / 2) := wrap_id (by omega) (by omega)
    simp only [h0, decide_true, cond_true]
    by_cases h1 : Int.tmod n 2 = 0
    · have : (Int.tmod n 2 != 0) = false := by simp [h1]
      rw [this, t1, e1]
      simp only [cond_false]
      omega
    · have : (Int.tmod n 2 != 0) = true := by simp [h1]
      have e2 : IntKind.i64.wrap (-((-n) / 2) - 1) = -((-n) / 2) - 1 := wrap_id (by omega) (by omega)
      rw [this, t1, e1, e2]
      simp only [cond_true]
      omega
  · simp only [h0, decide_false, cond_false]
    rw [Int.tdiv_eq_ediv_of_nonneg (by omega), wrap_id (by omega) (by omega)]
def C1 : Ctx := addQ (addQ (addQ C0 29 F_or) 30 F_fits) 54 F_half
theorem C1_ok : COk Try.prog C1 :=
  addQ_ok (addQ_ok (addQ_ok (C0_ok _) q29 (fnOk_of Try.func29 (by kernel_rfl) (by kernel_rfl))) q30 (fnOk_of Try.func30 (by kernel_rfl) (by kernel_rfl))) q54 (fnOk_of Try.func54 (by kernel_rfl) (by kernel_rfl))
def D1 : Ctx := addQ (addQ (addQ C0 33 F_or) 34 F_fits) 47 F_half'
theorem D1_ok : COk Try.prog D1 :=
  addQ_ok (addQ_ok (addQ_ok (C0_ok _) q33 (fnOk_of Try.func33 (by kernel_rfl) (by kernel_rfl))) q34 (fnOk_of Try.func34 (by kernel_rfl) (by kernel_rfl))) q47 (fnOk_of Try.func47 (by kernel_rfl) (by kernel_rfl))
end Go.Proofs.Ytokdpnpldoaepaa.Ac
