/- What is proved: contracts of the functions that the statements BoundNil and BoundKeeps reach, and of these two. Conditions: none but those in each statement. -/
import Derived.Test.YtpoeebngkakmeaaAskTell
import Derived.Test.YtpoeebngkakmeaaAskSame
import Derived.Test.YtpoeebngkakmeaaBoundTell
namespace Go.Proofs.Ytpoeebngkakmeaa.BoundLaws
open Go.RowKit Go.Proofs.Ytpoeebngkakmeaa.AskWords Go.Proofs.Ytpoeebngkakmeaa.BoundTell
theorem asked_tell (t : Teller) : AskTell.Asked List.length (TJ t) t.out t.num t.ok nextT t.p where
  call g s b n w hj hd hg := (tell_any t g s b n w hj hd hg).mono fun _ _ h => h
  dep_next s b n := by simp [nextT]
  store := TJ.store
  drew := TJ.drew
  alloc := TJ.alloc
/-- A function without a state: below where it began nothing has turned. -/
structure BJ (B : Nat) (w0 : World) (g : Nat) (_ : Unit) (w : World) : Prop where
  le : B ≤ g
  bel : Below B w0 w
  lt : B ≤ w.heap.size
theorem asked_same (w0 : World) : AskSame.Asked (fun _ => 0) (BJ w0.heap.size w0) (fun _ _ n => n) (fun _ _ n => n) (fun _ _ _ => true) (fun s _ _ => s) where
  call g s b n w hj hd hg := (same_any b n w).mono fun e w' h => by
    obtain ⟨rfl, hb⟩ := h
    exact ⟨rfl, ⟨hj.le, hj.bel.trans (hb.mono hj.lt), Nat.le_trans hj.lt hb.size⟩, hb.block g hg, hb.size⟩
  dep_next s b n := by simp
  store g s w o v h := ⟨h.le, h.bel.setCell h.le _, by simpa [World.setCell] using h.lt⟩
  drew g s w h := ⟨h.le, h.bel.drew, h.lt⟩
  alloc g s w o h := ⟨h.le, h.bel.alloc h.lt _, by have := h.lt; simp; omega⟩
def T9 (w : World) : Teller := ⟨5, 5, 5, 9, w.heap.size, w⟩
theorem awake_r (w : World) : AskTell.solveR (T9 w).out (T9 w).num (T9 w).ok nextT [] true 0 0 9 = ((1, true), [(true, 0)]) := by
  simp [AskTell.solveR, AskTell.lastR, Teller.out, Teller.num, Teller.ok, Teller.ans, T9, nextT]
set_option maxHeartbeats 1000000 in
theorem awake_any (w : World) : Calls Try.prog 15 #[] w (IsTrue w) := by
  have hmf : ∀ (fn : Fn) (first cap : Array Value) (w : World), (Instr.makeFunc fn first cap).run Try.prog w = .ok (.func fn first cap) w := fun _ _ _ _ => rfl
  have HJ : Hid (TJ (T9 w) ((w.alloc (.cells #[.int .i64 5, .int .i64 5, .int .i64 5, .int .i64 9, .slice none 0 0] 29)).heap.size + 1) [] (w.alloc (.cells #[.int .i64 5, .int .i64 5, .int .i64 5, .int .i64 9, .slice none 0 0] 29))) :=
    Lib.hid ⟨⟨.slice none 0 0, blk_new _ _, World.ownsRow_nil _ _ _ _, by simp [Value.ownBlock]⟩, by simp [T9]; omega, (Below.refl _ _).alloc (Nat.le_refl _) _⟩
  go_enter Try.func15, Try.ntmps15
  go_wp2_with fail
  refine (AskTell.solve_any w.heap.size (asked_tell (T9 w)) [] true 0 0 9 _ HJ.out rfl).mono ?_
  rintro e w1 ⟨rfl, hj, hz⟩
  rw [awake_r] at hj ⊢
  obtain ⟨⟨v, hb, hown, _⟩, _, hbel⟩ := hj
  obtain ⟨g, cap, rfl, _, _⟩ := hown.form (by simp)
  have c4 : w1.cell? ⟨w.heap.size, 4, none⟩ = some (.slice (some ⟨g, 0, none⟩) 1 cap) := (blk_cell hb 4).trans rfl
  have HB := Lib.hid hbel
  clear hb hown hbel hz
  go_wp2_with fail
  go_ret
  exact ⟨rfl, HB.out⟩
set_option maxHeartbeats 1000000 in
set_option maxRecDepth 100000 in
theorem nil_any (b : Bool) (n least most : Int) (w : World) : Calls Try.prog 16 #[.nilFunc, .agg #[.bool b, .int .i64 n], .int .i64 least, .int .i64 most] w fun e w' => e = .returned (.tuple #[.int .i64 0, .bool false]) ∧ Below w.heap.size w w' := by
  have hnf : ∀ w : World, Sem.run Try.prog (binOp BinOp.eql 32 Value.nilFunc Value.nilFunc) w = .ok (.bool true) w := fun _ => by rfl
  go_enter Try.func16, Try.ntmps16
  go_wp2
  go_ret2
  exact ⟨rfl, (Below.refl _ _).alloc (Nat.le_refl _) _⟩
set_option maxHeartbeats 1000000 in
theorem BoundNil_any (b : Bool) (n least most : Int) (w : World) : Calls Try.prog 5 #[.agg #[.bool b, .int .i64 n], .int .i64 least, .int .i64 most] w (IsTrue w) := by
  go_enter Try.func5, Try.ntmps5
  go_wp2_with fail
  refine (nil_any b n least most _).mono ?_
  rintro e w1 ⟨rfl, hb1⟩
  have H1 := Lib.hid hb1
  clear hb1
  go_wp2_with fail
  refine (awake_any _).mono ?_
  rintro e w2 ⟨rfl, hb2⟩
  have H2 := Lib.hid hb2
  clear hb2
  go_wp2_with fail
  go_ret
  refine ⟨rfl, ?_⟩
  have h1 := H1.out
  exact ((Below.refl _ _).alloc (Nat.le_refl _) _).trans ((h1.mono (by simp)).trans (H2.out.mono (by have := h1.size; simp at this; omega)))
theorem keeps_r (own least most : Int) : AskSame.solveR (σ := Unit) (fun _ _ n => n) (fun _ _ n => n) (fun _ _ _ => true) (fun s _ _ => s) () false own least most = (((if (if most < own then most else own) < least then least else (if most < own then most else own)), true), ()) := by
  simp only [AskSame.solveR, AskSame.lastR, if_true]
  split <;> split <;> rfl
attribute [local go_sem] max2_i min2_i
set_option maxHeartbeats 1000000 in
theorem BoundKeeps_any (own least most : Int) (w : World) : Calls Try.prog 4 #[.int .i64 own, .int .i64 least, .int .i64 most] w (IsTrue w) := by
  go_enter Try.func4, Try.ntmps4
  go_wp2_with fail
  refine (awake_any _).mono ?_
  rintro e w1 ⟨rfl, hb1⟩
  have H1 := Lib.hid hb1
  clear hb1
  go_wp2_with fail
  refine (AskSame.solve_any (asked_same w1) () false own least most w1 ⟨by simp, Below.refl _ _, Nat.le_refl _⟩ rfl).mono ?_
  rintro e w2 ⟨rfl, ⟨_, hb2, _⟩, _⟩
  rw [keeps_r]
  have H2 := Lib.hid hb2
  clear hb2
  go_wp2_with fail
  all_goals
    go_ret
    exact ⟨rfl, H1.out.trans (H2.out.mono H1.out.size)⟩
end Go.Proofs.Ytpoeebngkakmeaa.BoundLaws
