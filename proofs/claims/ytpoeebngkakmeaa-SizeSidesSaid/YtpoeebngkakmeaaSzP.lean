/- What is proved: Part of the document is a product of 128 bits, divided and rounded down. Conditions: none but those in each statement. -/
import Derived.Test.YtpoeebngkakmeaaMSizeSides4
import Derived.Laws.Bits64b
namespace Go.Proofs.Ytpoeebngkakmeaa.SzP
open Go Go.RowKit Go.Proofs.Ytpoeebngkakmeaa.PSizeSides Go.Proofs.YtpoeebngkakmeaaW.PrintWords Go.Proofs.YtpoeebngkakmeaaW.PrintLast
set_option linter.unusedSimpArgs false
set_option linter.unusedVariables false
theorem w64 {n : Int} (h1 : -9223372036854775808 ≤ n) (h2 : n ≤ 9223372036854775807) : wrap64 n = n := by unfold wrap64; omega
/-- A product of two numbers in their bounds. -/
theorem mul_bd {a b A B : Int} (h1 : 0 ≤ a) (h2 : a ≤ A) (h3 : -B ≤ b) (h4 : b ≤ B) : -(A * B) ≤ a * b ∧ a * b ≤ A * B := by
  have hB : 0 ≤ B := by omega
  have e1 : a * b ≤ a * B := Int.mul_le_mul_of_nonneg_left h4 h1
  have e2 : a * B ≤ A * B := Int.mul_le_mul_of_nonneg_right h2 hB
  have e3 : a * (-B) ≤ a * b := Int.mul_le_mul_of_nonneg_left h3 h1
  rw [Int.mul_neg] at e3
  omega
/-- What a part of something is: rounded down. -/
def part (a p : Int) : Int := a * p / 10000
/-! ### The document's Part: a product of 128 bits, divided -/
theorem u64w {n : Int} (h1 : 0 ≤ n) (h2 : n < 18446744073709551616) : IntKind.u64.wrap n = n := by rw [IntKind.wrap_u64]; omega
theorem lz (k : Nat) : bits_LeadingZeros64.f k 10000 = some 50 := by
  unfold bits_LeadingZeros64.f
  rw [if_pos (by decide)]
  decide
theorem shl50 (x : Int) : shl .u64 x 50 = (x * 1125899906842624) % 18446744073709551616 := by
  unfold shl
  rw [IntKind.wrap_u64]
  rfl
theorem shr14 (x : Int) : shr .u64 x 14 = x / 16384 := rfl
theorem shr50 (x : Int) : shr .u64 x 50 = x / 1125899906842624 := rfl
theorem and32 (z : Int) (h0 : 0 ≤ z) (h1 : z < 18446744073709551616) : Go.bits .and .u64 z 4294967295 = z % 4294967296 := and_low32 z h0 h1
theorem or_parts (H M : Int) (h0 : 0 ≤ H) (h1 : H ≤ 61) (h2 : 0 ≤ M) (h3 : M < 1125899906842624) : Go.bits .or .u64 (H * 1125899906842624) M = H * 1125899906842624 + M := by
  obtain ⟨h, rfl⟩ := Int.eq_ofNat_of_zero_le h0
  obtain ⟨m, rfl⟩ := Int.eq_ofNat_of_zero_le h2
  have e := bits_or_u64_nat (h * 1125899906842624) m (by omega) (by omega)
  have e2 : (h * 1125899906842624) ||| m = h * 1125899906842624 + m := by
    have := Nat.two_pow_add_eq_or_of_lt (i := 50) (b := m) (by omega) h
    rw [Nat.mul_comm] at this
    exact this.symm
  rw [e2] at e
  rw [Int.natCast_add, Int.natCast_mul] at e
  exact e
theorem l0_none (k : Nat) (a b c x11 x13 x14 x15 x16 : Int) (hk : 2 ≤ k) (h : ¬ x15 ≥ 4294967296) (h2 : 0 ≤ IntKind.u64.wrap (4294967296 * x16) + x13) (h3 : IntKind.u64.wrap (4294967296 * x16) + x13 < 18446744073709551616) :
    bits_Div64.l0 k a b c 0 x11 x13 x14 x15 x16 = bits_Div64.j2 (k - 2) a b c 0 x11 x13 x14 x15 := by
  obtain ⟨k, rfl⟩ : ∃ m, k = m + 2 := ⟨k - 2, by omega⟩
  rw [bits_Div64.l0.eq_def]
  simp only []
  rw [if_neg h, bits_Div64.j1.eq_def]
  simp only []
  rw [Int.mul_zero, u64w (n := 0) (by decide) (by decide), u64w h2 h3, if_neg (by simp; omega)]
  rfl
theorem l1_none (k : Nat) (a c x14 x15 x16 x17 x18 : Int) (hk : 2 ≤ k) (h : ¬ x18 ≥ 4294967296) (h2 : 0 ≤ IntKind.u64.wrap (4294967296 * x16) + x14) (h3 : IntKind.u64.wrap (4294967296 * x16) + x14 < 18446744073709551616) :
    bits_Div64.l1 k a 50 c 0 x14 x15 x16 x17 x18 = some (IntKind.u64.wrap ((IntKind.u64.wrap (x15 * 4294967296)) + x18), shr .u64 (IntKind.u64.wrap ((IntKind.u64.wrap ((IntKind.u64.wrap (x17 * 4294967296)) + x14)) - (IntKind.u64.wrap (x18 * a)))) 50) := by
  obtain ⟨k, rfl⟩ : ∃ m, k = m + 2 := ⟨k - 2, by omega⟩
  rw [bits_Div64.l1.eq_def]
  simp only []
  rw [if_neg h, bits_Div64.j4.eq_def]
  simp only []
  rw [Int.mul_zero, u64w (n := 0) (by decide) (by decide), u64w h2 h3, if_neg (by simp; omega), if_pos (by decide)]
theorem div_ok (P : Int) (h0 : 0 ≤ P) (h1 : P ≤ 1125899906842624000000) (k : Nat) (hk : 6 ≤ k) :
    bits_Div64.f k (P / 18446744073709551616) (P % 18446744073709551616) 10000 = some (P / 10000, P % 10000) := by
  unfold bits_Div64.f
  rw [if_neg (by decide), if_neg (by omega)]
  by_cases hz : P / 18446744073709551616 = 0
  · have e : P % 18446744073709551616 = P := by omega
    rw [if_pos hz, e, Int.tdiv_eq_ediv_of_nonneg h0, Int.tmod_eq_emod_of_nonneg h0, u64w (by omega) (by omega)]
  · rw [if_neg hz, lz]
    simp only [Option.bind_some]
    have c50 : IntKind.u64.wrap 50 = 50 := by decide
    have c14 : IntKind.u64.wrap (64 - 50) = 14 := by decide
    have cy : shl .u64 10000 50 = 11258999068426240000 := by decide
    rw [c50, c14, cy]
    have cy1 : (11258999068426240000 : Int) / 4294967296 = 2621440000 := by decide
    have cy0 : Go.bits .and .u64 11258999068426240000 4294967295 = 0 := by decide
    rw [if_pos (by decide), if_pos (by decide), cy1, cy0, if_neg (by decide), shl50, shl50, shr14]
    obtain ⟨H, hH⟩ : ∃ H, P / 18446744073709551616 = H := ⟨_, rfl⟩
    obtain ⟨L, hL⟩ : ∃ L, P % 18446744073709551616 = L := ⟨_, rfl⟩
    rw [hH, hL]
    rw [show (H * 1125899906842624) % 18446744073709551616 = H * 1125899906842624 by omega]
    rw [or_parts H (L / 16384) (by omega) (by omega) (by omega) (by omega)]
    rw [show H * 1125899906842624 + L / 16384 = P / 16384 by omega]
    rw [and32 _ (by omega) (by omega)]
    rw [show L * 1125899906842624 % 18446744073709551616 / 4294967296 = (P % 16384) * 262144 by omega]
    rw [show L * 1125899906842624 % 18446744073709551616 % 4294967296 = 0 by omega]
    rw [Int.tdiv_eq_ediv_of_nonneg (by omega)]
    have eq1 : P / 16384 / 2621440000 = P / 42949672960000 := by omega
    obtain ⟨Q, hQ⟩ : ∃ Q, P / 42949672960000 = Q := ⟨_, rfl⟩
    rw [eq1, hQ, u64w (n := Q) (by omega) (by omega), u64w (n := Q * 2621440000) (by omega) (by omega)]
    have e2 : P / 16384 - Q * 2621440000 = P / 16384 % 2621440000 := by omega
    obtain ⟨R, hR⟩ : ∃ R, P / 16384 % 2621440000 = R := ⟨_, rfl⟩
    have hR0 : 0 ≤ R ∧ R < 2621440000 := by omega
    rw [e2, hR, u64w (n := R) (by omega) (by omega)]
    have hw : IntKind.u64.wrap (4294967296 * R) = 4294967296 * R := u64w (by omega) (by omega)
    rw [l0_none k _ _ _ _ _ _ _ _ (by omega) (by omega) (by rw [hw]; omega) (by rw [hw]; omega)]
    obtain ⟨j, hj⟩ : ∃ j, k - 2 = j + 1 := ⟨k - 3, by omega⟩
    rw [hj, bits_Div64.j2.eq_def]
    simp only []
    rw [if_neg (by decide)]
    obtain ⟨W, hW⟩ : ∃ W, P % 42949672960000 = W := ⟨_, rfl⟩
    have e3 : IntKind.u64.wrap ((IntKind.u64.wrap ((IntKind.u64.wrap (P / 16384 * 4294967296)) + P % 16384 * 262144)) - (IntKind.u64.wrap (Q * 11258999068426240000))) = W * 262144 := by
      simp only [IntKind.wrap_u64]
      omega
    rw [e3, Int.tdiv_eq_ediv_of_nonneg (by omega)]
    rw [show W * 262144 / 2621440000 = W / 10000 by omega]
    rw [u64w (n := W / 10000) (by omega) (by omega), u64w (n := W / 10000 * 2621440000) (by omega) (by omega)]
    rw [show W * 262144 - W / 10000 * 2621440000 = W % 10000 * 262144 by omega]
    have hw2 : IntKind.u64.wrap (W % 10000 * 262144) = W % 10000 * 262144 := u64w (by omega) (by omega)
    rw [hw2]
    have hw3 : IntKind.u64.wrap (4294967296 * (W % 10000 * 262144)) = 4294967296 * (W % 10000 * 262144) := u64w (by omega) (by omega)
    rw [l1_none j _ _ _ _ _ _ _ (by omega) (by omega) (by rw [hw3]; omega) (by rw [hw3]; omega), shr50]
    congr 2
    · simp only [IntKind.wrap_u64]
      omega
    · have e4 : IntKind.u64.wrap ((IntKind.u64.wrap ((IntKind.u64.wrap (W * 262144 * 4294967296)) + 0)) - (IntKind.u64.wrap (W / 10000 * 11258999068426240000))) = W % 10000 * 1125899906842624 := by
        simp only [IntKind.wrap_u64]
        omega
      rw [e4]
      omega

theorem refpart_ok (a p : Int) (h1 : 0 ≤ a) (h2 : a ≤ 1125899906842624) (h3 : -1000000 ≤ p) (h4 : p ≤ 1000000) :
    decoupageref01_Part.f 20 a p = if -1125899906842624 ≤ part a p ∧ part a p ≤ 1125899906842624 then some (part a p, true) else some (0, false) := by
  unfold decoupageref01_Part.f
  rw [if_neg (by omega), if_neg (by omega), if_neg (by omega)]
  have hd : decide (p > 1000000) = false := decide_eq_false (by omega)
  rw [hd]
  have key : ∀ m : Int, 0 ≤ m → m ≤ 1000000 → (p < 0 → m = -p) → (¬ p < 0 → m = p) → decoupageref01_Part.j1 19 a p m = if -1125899906842624 ≤ part a p ∧ part a p ≤ 1125899906842624 then some (part a p, true) else some (0, false) := by
    intro m m0 m1 hn hp
    obtain ⟨P, hP⟩ : ∃ P, a * m = P := ⟨_, rfl⟩
    have hb := mul_bd h1 h2 (by omega : -1000000 ≤ m) m1
    have hb0 : 0 ≤ a * m := Int.mul_nonneg h1 m0
    rw [hP] at hb hb0
    simp only [decoupageref01_Part.j1]
    rw [u64w h1 (by omega)]
    have hM : bits_Mul64.f a m = some (P / 18446744073709551616, P % 18446744073709551616) := by
      unfold bits_Mul64.f
      rw [if_pos ⟨by omega, by omega, by omega, by omega⟩, hP]
    rw [hM]
    simp only [Option.bind_some]
    rw [div_ok P hb0 (by omega) 18 (by decide)]
    simp only [Option.bind_some]
    by_cases hs : p < 0
    · have hq : part a p = -(if P % 10000 > 0 then P / 10000 + 1 else P / 10000) := by
        unfold part
        have e : a * p = -P := by rw [← hP, hn hs, Int.mul_neg, Int.neg_neg]
        rw [e]
        split <;> omega
      rw [if_pos hs]
      simp only [decoupageref01_Part.j2, decoupageref01_Part.j3, decide_eq_true_eq]
      by_cases hr : P % 10000 > 0
      · rw [if_pos hr] at hq ⊢
        rw [u64w (by omega) (by omega), hq]
        by_cases hg : P / 10000 + 1 > 1125899906842624
        · rw [if_pos hg, if_neg (by omega)]
        · rw [if_neg hg, if_pos hs, if_pos (by omega), w64 (n := P / 10000 + 1) (by omega) (by omega), w64 (by omega) (by omega)]
      · rw [if_neg hr] at hq ⊢
        rw [hq]
        by_cases hg : P / 10000 > 1125899906842624
        · rw [if_pos hg, if_neg (by omega)]
        · rw [if_neg hg, if_pos hs, if_pos (by omega), w64 (n := P / 10000) (by omega) (by omega), w64 (by omega) (by omega)]
    · have hq : part a p = P / 10000 := by
        unfold part
        rw [← hP, hp hs]
      rw [if_neg hs]
      simp only [decoupageref01_Part.j2, decoupageref01_Part.j3]
      rw [if_neg (by decide), hq]
      by_cases hg : P / 10000 > 1125899906842624
      · rw [if_pos hg, if_neg (by omega)]
      · rw [if_neg hg, if_neg hs, if_pos (by omega), w64 (by omega) (by omega)]
  simp only [decoupageref01_Part.j0]
  rw [if_neg (by decide)]
  by_cases hs : p < 0
  · rw [if_pos hs]
    refine key _ ?_ ?_ ?_ ?_ <;> rw [w64 (by omega) (by omega), u64w (by omega) (by omega)] <;> omega
  · rw [if_neg hs]
    refine key _ ?_ ?_ ?_ ?_ <;> rw [u64w (by omega) (by omega)] <;> omega
theorem refpart_out (a p : Int) (h : ¬ (0 ≤ a ∧ a ≤ 1125899906842624 ∧ -1000000 ≤ p ∧ p ≤ 1000000)) : decoupageref01_Part.f 20 a p = some (0, false) := by
  unfold decoupageref01_Part.f
  by_cases p1 : a < 0
  · rw [if_pos p1]; simp only [decoupageref01_Part.j0]; simp
  · rw [if_neg p1]
    by_cases p2 : a > 1125899906842624
    · rw [if_pos p2]; simp only [decoupageref01_Part.j0]; simp
    · rw [if_neg p2]
      by_cases p3 : p < -1000000
      · rw [if_pos p3]; simp only [decoupageref01_Part.j0]; simp
      · rw [if_neg p3, decide_eq_true (by omega)]; simp only [decoupageref01_Part.j0]; simp
end Go.Proofs.Ytpoeebngkakmeaa.SzP
