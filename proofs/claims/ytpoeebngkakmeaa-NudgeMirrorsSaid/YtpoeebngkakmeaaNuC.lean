/- What is proved: the statements about how far a box is moved, called with whatever style and container, answer true and turn nothing that was there. Conditions: none but those in each statement. -/
import Derived.Test.YtpoeebngkakmeaaNuB
import Derived.Test.YtpoeebngkakmeaaAskWords
namespace Go.Proofs.Ytpoeebngkakmeaa.Nu
open Go Go.RowKit Go.Proofs.Ytpoeebngkakmeaa.X Go.Proofs.Ytpoeebngkakmeaa.AskWords
set_option linter.unusedVariables false
set_option linter.unusedSimpArgs false
def w64 (n : Int) : Int := (n + 9223372036854775808) % 18446744073709551616 - 9223372036854775808
theorem wrap_w (n : Int) : IntKind.i64.wrap n = w64 n := by
  unfold w64
  have e : IntKind.i64.wrap n = if (n % 18446744073709551616 : Int) ≥ 9223372036854775808 then n % 18446744073709551616 - 18446744073709551616 else n % 18446744073709551616 := by
    simp [IntKind.wrap, IntKind.bits, IntKind.signed]
  rw [e]
  split <;> omega
def I64' (n : Int) : Prop := -9223372036854775808 ≤ n ∧ n ≤ 9223372036854775807
theorem ofP_I64 (k n b : Int) (has : Bool) : I64' (ofP k n b has).1.2 := by
  have fit : ∀ m, fitsB m = true → I64' m := by
    intro m h
    unfold fitsB at h
    simp only [Bool.and_eq_true, decide_eq_true_eq] at h
    constructor <;> omega
  have part : I64' (partP b n).1 := by
    unfold partP
    generalize decide (b < 0) = a1
    generalize decide (b > 1125899906842624) = a2
    generalize decide (n < -1000000) = a3
    generalize decide (n > 1000000) = a4
    cases a1 <;> cases a2 <;> cases a3 <;> cases a4 <;> simp only [cond_true, cond_false] <;> try exact ⟨by omega, by omega⟩
    cases hf : fitsB (partN b n) with
    | true => exact fit _ hf
    | false => exact ⟨by simp, by simp⟩
  unfold ofP
  generalize (k == 0) = c0
  generalize (k == 2) = c2
  generalize (k == 1) = c1
  cases c0 <;> simp only [cond_true, cond_false]
  · cases hh : (c2 && !has) <;> simp only [cond_true, cond_false]
    · cases hf : (c1 && fitsB n) <;> simp only [cond_true, cond_false]
      · cases c2 <;> simp only [cond_true, cond_false]
        · exact ⟨by omega, by omega⟩
        · exact part
      · simp only [Bool.and_eq_true] at hf
        exact fit _ hf.2
    · exact ⟨by omega, by omega⟩
  · exact ⟨by omega, by omega⟩
theorem neg_neg {a : Int} (h : I64' a) : IntKind.i64.wrap (0 - IntKind.i64.wrap (0 - a)) = a := by
  obtain ⟨h0, h1⟩ := h
  rw [wrap_w, wrap_w]
  unfold w64
  omega
theorem mir (aA bA r : Bool) {aN bN : Int} (ha : I64' aN) : pickN aA aN bA bN r = IntKind.i64.wrap (0 - pickN bA bN aA aN (!r)) := by
  unfold pickN orV
  cases aA <;> cases bA <;> cases r <;> simp only [Bool.not_true, Bool.not_false, Bool.true_and, Bool.false_and, Bool.or_true, Bool.or_false, Bool.true_or, Bool.false_or, cond_true, cond_false]
  all_goals first | rfl | exact (neg_neg ha).symm | exact (neg_neg (a := 0) ⟨by omega, by omega⟩).symm | skip
theorem NudgeNone_any (s0 : Bool) (s1 k0 n0 k1 n1 k2 n2 k3 n3 wk wn hk hn iwk iwn awk awn ihk ihn ahk ahn m0 m1 m2 m3 m4 m5 m6 m7 p0 p1 p2 p3 p4 p5 p6 p7 b0 b1 b2 b3 : Int) (rtl hz : Bool) (z : Int) (cl : Bool) (ba li w : Int) (hA : Bool) (hN : Int) (r : Bool) (W : World) :
    Calls Try.prog 12 #[.agg #[.bool s0, .int .i64 s1, .int .i64 k0, .int .i64 n0, .int .i64 k1, .int .i64 n1, .int .i64 k2, .int .i64 n2, .int .i64 k3, .int .i64 n3, .int .i64 wk, .int .i64 wn, .int .i64 hk, .int .i64 hn, .int .i64 iwk, .int .i64 iwn, .int .i64 awk, .int .i64 awn, .int .i64 ihk, .int .i64 ihn, .int .i64 ahk, .int .i64 ahn, .int .i64 m0, .int .i64 m1, .int .i64 m2, .int .i64 m3, .int .i64 m4, .int .i64 m5, .int .i64 m6, .int .i64 m7, .int .i64 p0, .int .i64 p1, .int .i64 p2, .int .i64 p3, .int .i64 p4, .int .i64 p5, .int .i64 p6, .int .i64 p7, .int .i64 b0, .int .i64 b1, .int .i64 b2, .int .i64 b3, .bool rtl, .bool hz, .int .i64 z, .bool cl, .int .i64 ba, .int .i64 li], .int .i64 w, .agg #[.bool hA, .int .i64 hN], .bool r] W (IsTrue W) := by
  refine call_of (EX_ok _) L1_ok mixed (v := B true) (args := [.agg (sty s0 s1 k0 n0 k1 n1 k2 n2 k3 n3 wk wn hk hn iwk iwn awk awn ihk ihn ahk ahn m0 m1 m2 m3 m4 m5 m6 m7 p0 p1 p2 p3 p4 p5 p6 p7 b0 b1 b2 b3 rtl hz z cl ba li), I w, .agg [B hA, I hN], B r]) (us := [_, _, _, _]) rfl rfl ((xNone s0 s1 k0 n0 k1 n1 k2 n2 k3 n3 wk wn hk hn iwk iwn awk awn ihk ihn ahk ahn m0 m1 m2 m3 m4 m5 m6 m7 p0 p1 p2 p3 p4 p5 p6 p7 b0 b1 b2 b3 rtl hz z cl ba li w hA hN r).trans ?_) W
  cases (s1 != 1) <;> rfl
theorem NudgeMirrors_any (s0 : Bool) (s1 k0 n0 k1 n1 k2 n2 k3 n3 wk wn hk hn iwk iwn awk awn ihk ihn ahk ahn m0 m1 m2 m3 m4 m5 m6 m7 p0 p1 p2 p3 p4 p5 p6 p7 b0 b1 b2 b3 : Int) (rtl hz : Bool) (z : Int) (cl : Bool) (ba li w : Int) (hA : Bool) (hN : Int) (r : Bool) (W : World) :
    Calls Try.prog 13 #[.agg #[.bool s0, .int .i64 s1, .int .i64 k0, .int .i64 n0, .int .i64 k1, .int .i64 n1, .int .i64 k2, .int .i64 n2, .int .i64 k3, .int .i64 n3, .int .i64 wk, .int .i64 wn, .int .i64 hk, .int .i64 hn, .int .i64 iwk, .int .i64 iwn, .int .i64 awk, .int .i64 awn, .int .i64 ihk, .int .i64 ihn, .int .i64 ahk, .int .i64 ahn, .int .i64 m0, .int .i64 m1, .int .i64 m2, .int .i64 m3, .int .i64 m4, .int .i64 m5, .int .i64 m6, .int .i64 m7, .int .i64 p0, .int .i64 p1, .int .i64 p2, .int .i64 p3, .int .i64 p4, .int .i64 p5, .int .i64 p6, .int .i64 p7, .int .i64 b0, .int .i64 b1, .int .i64 b2, .int .i64 b3, .bool rtl, .bool hz, .int .i64 z, .bool cl, .int .i64 ba, .int .i64 li], .int .i64 w, .agg #[.bool hA, .int .i64 hN], .bool r] W (IsTrue W) := by
  refine call_of (EX_ok _) L1_ok mixed (v := B true) (args := [.agg (sty s0 s1 k0 n0 k1 n1 k2 n2 k3 n3 wk wn hk hn iwk iwn awk awn ihk ihn ahk ahn m0 m1 m2 m3 m4 m5 m6 m7 p0 p1 p2 p3 p4 p5 p6 p7 b0 b1 b2 b3 rtl hz z cl ba li), I w, .agg [B hA, I hN], B r]) (us := [_, _, _, _]) rfl rfl ((xMirrors s0 s1 k0 n0 k1 n1 k2 n2 k3 n3 wk wn hk hn iwk iwn awk awn ihk ihn ahk ahn m0 m1 m2 m3 m4 m5 m6 m7 p0 p1 p2 p3 p4 p5 p6 p7 b0 b1 b2 b3 rtl hz z cl ba li w hA hN r).trans ?_) W
  have e := mir (ofP k3 n3 w true).1.1 (ofP k1 n1 w true).1.1 r (bN := (ofP k1 n1 w true).1.2) (ofP_I64 k3 n3 w true)
  obtain ⟨x, hx⟩ : ∃ x, pickN (ofP k1 n1 w true).1.1 (ofP k1 n1 w true).1.2 (ofP k3 n3 w true).1.1 (ofP k3 n3 w true).1.2 (!r) = x := ⟨_, rfl⟩
  rw [hx] at e
  cases h1 : (s1 != 1) <;> cases h2 : (ofP k0 n0 hN !hA).2 <;> cases h3 : (ofP k1 n1 w true).2 <;> cases h4 : (ofP k2 n2 hN !hA).2 <;> cases h5 : (ofP k3 n3 w true).2 <;>
    simp only [h1, h2, h3, h4, h5, e, hx, Bool.not_true, Bool.not_false, cond_true, cond_false, beq_self_eq_true] <;> rfl
end Go.Proofs.Ytpoeebngkakmeaa.Nu
