/- What is proved: contracts of the asker's method and of Solve at an instance whose answer has one cell, for one function that is asked. Conditions: none but those in each statement. -/
import Derived.Test.YtpoeebngkakmeaaProg
import Derived.Test.YtpoeebngkakmeaaAskWords
import Derived.Deep.RegionWith
import Derived.Outline
import Derived.Lib.Hide
namespace Go.Proofs.Ytpoeebngkakmeaa.AskSame
open Go.RowKit Go.Proofs.Ytpoeebngkakmeaa.AskWords
/-- What the one that is asked keeps and answers: J: what holds of the world; g: the asker's block. -/
structure Asked {σ : Type} (dep : σ → Nat) (J : Nat → σ → World → Prop) (out num : σ → Bool → Int → Int) (ok : σ → Bool → Int → Bool) (next : σ → Bool → Int → σ)  : Prop where
  call : ∀ g s b n w, J g s w → dep s ≤ 2 → g < w.heap.size → Calls Try.prog 20 #[.agg #[.bool b, .int .i64 n]] w fun e w' => e = .returned (.tuple #[.int .i64 (out s b n), .int .i64 (num s b n), .bool (ok s b n)]) ∧ J g (next s b n) w' ∧ w'.heap[g]? = w.heap[g]? ∧ w.heap.size ≤ w'.heap.size
  dep_next : ∀ s b n, dep (next s b n) ≤ dep s + 1
  store : ∀ g s w o v, J g s w → J g s (w.setCell ⟨g, o, none⟩ v)
  drew : ∀ g s w, J g s w → J g s w.drew
  alloc : ∀ g s w o, J g s w → J g s (w.alloc o)
set_option maxHeartbeats 1000000 in
theorem ask_any {σ : Type} {dep : σ → Nat} {J : Nat → σ → World → Prop} {out num : σ → Bool → Int → Int} {ok : σ → Bool → Int → Bool} {next : σ → Bool → Int → σ}  (A : Asked dep J out num ok next )
    (g : Nat) (s : σ) (b : Bool) (n x y : Int) (w : World) (hb0 : w.heap[g]? = some (.cells #[.func (Fn.func 20) #[] #[], .int .i64 x, .int .i64 y] 91 (0, 0))) (hJ : J g s w) (hd : dep s ≤ 2) :
    Calls Try.prog 38 #[.pointer (some ⟨g, 0, none⟩), .agg #[.bool b, .int .i64 n]] w fun e w' => e = .returned (.bool (ok s b n)) ∧ J g (next s b n) w' ∧ w'.heap[g]? = some (.cells #[.func (Fn.func 20) #[] #[], .int .i64 (out s b n), .int .i64 (num s b n)] 91 (0, 0)) ∧ w.heap.size ≤ w'.heap.size := by
  have h0 : w.cell? ⟨g, 0, none⟩ = some (.func (Fn.func 20) #[] #[]) := (blk_cell hb0 0).trans rfl
  have hlt := blk_lt hb0
  have HB := Lib.hid hb0
  have HJ := Lib.hid hJ
  have HA := Lib.hid A
  have HD := Lib.hid hd
  clear hb0 hJ A hd
  go_enter Try.func38, Try.ntmps38
  go_wp2
  go_region_with (go_at_call 20; refine (HA.out.call g s b n _ ?_ HD.out ?_).mono ?_; (first | exact HA.out.drew _ _ _ (HA.out.alloc _ _ _ _ HJ.out) | exact HA.out.alloc _ _ _ _ (HA.out.drew _ _ _ HJ.out)); (simp; omega); rintro e w' ⟨rfl, hj, hg, hz⟩)
  all_goals
    have hgb := hg.trans (blk_drew (blk_alloc HB.out _))
    have c1 : w'.cell? ⟨g, 1, none⟩ = some (.int .i64 x) := (blk_cell hgb 1).trans rfl
    have c2 : w'.cell? ⟨g, 2, none⟩ = some (.int .i64 y) := (blk_cell hgb 2).trans rfl
    have f1 : w'.frozen? ⟨g, 1, none⟩ = false := blk_frozen hgb 1
    have f2 : w'.frozen? ⟨g, 2, none⟩ = false := blk_frozen hgb 2
    have HG := Lib.hid hgb
    have HJ2 := Lib.hid hj
    have HZ := Lib.hid hz
    clear hgb hj hz hg
    go_wp2
    go_ret
    exact ⟨rfl, HA.out.store _ _ _ _ _ (HA.out.store _ _ _ _ _ HJ2.out), (blk_set (blk_set HG.out 1 _) 2 _).trans rfl, by have := HZ.out; simp [World.setCell] at this ⊢; omega⟩
/-- The last step: is it too little? -/
def lastR {σ : Type} (out : σ → Bool → Int → Int) (ok : σ → Bool → Int → Bool) (next : σ → Bool → Int → σ) (least : Int) (s : σ) (o m : Int) : (Int × Bool) × σ :=
  if m < least then (if ok s false least = true then ((out s false least, true), next s false least) else ((0, false), next s false least)) else ((o, true), s)
/-- What Solve answers. -/
def solveR {σ : Type} (out num : σ → Bool → Int → Int) (ok : σ → Bool → Int → Bool) (next : σ → Bool → Int → σ) (s : σ) (b : Bool) (n least most : Int) : (Int × Bool) × σ :=
  if ok s b n = true then
    (if most < num s b n then
      (if ok (next s b n) false most = true then lastR out ok next least (next (next s b n) false most) (out (next s b n) false most) (num (next s b n) false most) else ((0, false), next (next s b n) false most))
    else lastR out ok next least (next s b n) (out s b n) (num s b n))
  else ((0, false), next s b n)
/-- What is said behind the call. -/
def Post {σ : Type} (J : Nat → σ → World → Prop) (r : (Int × Bool) × σ) (w : World) (e : Ending) (w' : World) : Prop :=
  e = .returned (.tuple #[.int .i64 r.1.1, .bool r.1.2]) ∧ J (w.heap.size + 1) r.2 w' ∧ w.heap.size ≤ w'.heap.size
set_option maxHeartbeats 2000000 in
set_option maxRecDepth 100000 in
theorem solve_any {σ : Type} {dep : σ → Nat} {J : Nat → σ → World → Prop} {out num : σ → Bool → Int → Int} {ok : σ → Bool → Int → Bool} {next : σ → Bool → Int → σ}  (A : Asked dep J out num ok next )
    (s : σ) (b : Bool) (n least most : Int) (w : World) (hJ : J (w.heap.size + 1) s w) (hd : dep s = 0) :
    Calls Try.prog 19 #[.func (Fn.func 20) #[] #[], .agg #[.bool b, .int .i64 n], .int .i64 least, .int .i64 most] w (Post J (solveR out num ok next s b n least most) w) := by
  have hmf : ∀ (fn : Fn) (first cap : Array Value) (w : World), (Instr.makeFunc fn first cap).run Try.prog w = .ok (.func fn first cap) w := fun _ _ _ _ => rfl
  have hnf : ∀ (fn : Fn) (a b : Array Value) (w : World), Sem.run Try.prog (binOp BinOp.eql 39 (Value.func fn a b) Value.nilFunc) w = .ok (.bool false) w := fun _ _ _ _ => by rfl
  have HA := Lib.hid A
  have HJ := Lib.hid hJ
  have D1 : Hid (dep s ≤ 2) := Lib.hid (by omega)
  have D2 : Hid (∀ b n, dep (next s b n) ≤ 2) := Lib.hid (fun b n => by have := A.dep_next s b n; omega)
  have D3 : Hid (∀ b n b' n', dep (next (next s b n) b' n') ≤ 2) := Lib.hid (fun b n b' n' => by have := A.dep_next s b n; have := A.dep_next (next s b n) b' n'; omega)
  clear A hJ hd
  have HB : Hid (((w.alloc (.cells #[.bool b, .int .i64 n] 23)).alloc (.cells #[.func (Fn.func 20) #[] #[], .int .i64 0, .int .i64 0] 91)).heap[w.heap.size + 1]? = some (.cells #[.func (Fn.func 20) #[] #[], .int .i64 0, .int .i64 0] 91 (0, 0))) := by
    have := blk_new (w.alloc (.cells #[.bool b, .int .i64 n] 23)) (.cells #[.func (Fn.func 20) #[] #[], .int .i64 0, .int .i64 0] 91)
    rw [World.size_alloc] at this
    exact this
  go_enter Try.func19, Try.ntmps19
  go_wp2_with fail
  refine (ask_any HA.out _ s b n _ _ _ HB.out (HA.out.alloc _ _ _ _ (HA.out.alloc _ _ _ _ HJ.out)) D1.out).mono ?_
  rintro e w1 ⟨rfl, hj1, hg1, hz1⟩
  have cx1 := (blk_cell hg1 1).trans rfl
  have cn1 := (blk_cell hg1 2).trans rfl
  have HJ1 := Lib.hid hj1
  have HG1 := Lib.hid hg1
  have HZ1 := Lib.hid hz1
  clear hj1 hg1 hz1
  by_cases h1 : ok s b n = true
  · by_cases h2 : most < num s b n
    · go_wp2_with fail
      refine (ask_any HA.out _ (next s b n) false most _ _ _ HG1.out HJ1.out (D2.out _ _)).mono ?_
      rintro e w2 ⟨rfl, hj2, hg2, hz2⟩
      have cx2 := (blk_cell hg2 1).trans rfl
      have cn2 := (blk_cell hg2 2).trans rfl
      have HJ2 := Lib.hid hj2
      have HG2 := Lib.hid hg2
      have HZ2 := Lib.hid hz2
      clear hj2 hg2 hz2
      by_cases h5 : ok (next s b n) false most = true
      · skip
        by_cases h3 : num (next s b n) false most < least
        · go_wp2_with fail
          refine (ask_any HA.out _ (next (next s b n) false most) false least _ _ _ HG2.out HJ2.out (D3.out _ _ _ _)).mono ?_
          rintro e w3 ⟨rfl, hj3, hg3, hz3⟩
          have cx3 := (blk_cell hg3 1).trans rfl
          have cn3 := (blk_cell hg3 2).trans rfl
          have HJ3 := Lib.hid hj3
          have HG3 := Lib.hid hg3
          have HZ3 := Lib.hid hz3
          clear hj3 hg3 hz3
          by_cases h4 : ok (next (next s b n) false most) false least = true
          · skip
            go_wp2_with fail
            go_ret2
            refine ⟨?_, ?_, ?_⟩
            · unfold solveR lastR; simp only [if_pos h1, if_pos h2, if_pos h5, if_pos h3, if_pos h4]; rfl
            · unfold solveR lastR; simp only [if_pos h1, if_pos h2, if_pos h5, if_pos h3, if_pos h4]; exact HJ3.out
            · have z := HZ1.out; simp only [World.size_alloc] at z; have z2 := HZ2.out; have z3 := HZ3.out; omega
          · have h4' : ok (next (next s b n) false most) false least = false := by simpa using h4
            clear h4
            have h4 : ¬ (ok (next (next s b n) false most) false least = true) := by rw [h4']; decide
            have H4 := Lib.hid h4
            clear h4
            go_wp2_with fail
            go_ret2
            refine ⟨?_, ?_, ?_⟩
            · unfold solveR lastR; simp only [if_pos h1, if_pos h2, if_pos h5, if_pos h3, if_neg H4.out]; rfl
            · unfold solveR lastR; simp only [if_pos h1, if_pos h2, if_pos h5, if_pos h3, if_neg H4.out]; exact HJ3.out
            · have z := HZ1.out; simp only [World.size_alloc] at z; have z2 := HZ2.out; have z3 := HZ3.out; omega
        · skip
          go_wp2_with fail
          go_ret2
          refine ⟨?_, ?_, ?_⟩
          · unfold solveR lastR; simp only [if_pos h1, if_pos h2, if_pos h5, if_neg (Int.not_lt.2 h3)]; rfl
          · unfold solveR lastR; simp only [if_pos h1, if_pos h2, if_pos h5, if_neg (Int.not_lt.2 h3)]; exact HJ2.out
          · have z := HZ1.out; simp only [World.size_alloc] at z; have z2 := HZ2.out; omega
      · have h5' : ok (next s b n) false most = false := by simpa using h5
        have H5 := Lib.hid h5
        clear h5
        go_wp2_with fail
        go_ret2
        refine ⟨?_, ?_, ?_⟩
        · unfold solveR lastR; simp only [if_pos h1, if_pos h2, if_neg H5.out]; rfl
        · unfold solveR lastR; simp only [if_pos h1, if_pos h2, if_neg H5.out]; exact HJ2.out
        · have z := HZ1.out; simp only [World.size_alloc] at z; have z2 := HZ2.out; omega
    · skip
      by_cases h3 : num s b n < least
      · go_wp2_with fail
        refine (ask_any HA.out _ (next s b n) false least _ _ _ HG1.out HJ1.out (D2.out _ _)).mono ?_
        rintro e w2 ⟨rfl, hj2, hg2, hz2⟩
        have cx2 := (blk_cell hg2 1).trans rfl
        have cn2 := (blk_cell hg2 2).trans rfl
        have HJ2 := Lib.hid hj2
        have HG2 := Lib.hid hg2
        have HZ2 := Lib.hid hz2
        clear hj2 hg2 hz2
        by_cases h4 : ok (next s b n) false least = true
        · skip
          go_wp2_with fail
          go_ret2
          refine ⟨?_, ?_, ?_⟩
          · unfold solveR lastR; simp only [if_pos h1, if_neg (Int.not_lt.2 h2), if_pos h3, if_pos h4]; rfl
          · unfold solveR lastR; simp only [if_pos h1, if_neg (Int.not_lt.2 h2), if_pos h3, if_pos h4]; exact HJ2.out
          · have z := HZ1.out; simp only [World.size_alloc] at z; have z2 := HZ2.out; omega
        · have h4' : ok (next s b n) false least = false := by simpa using h4
          clear h4
          have h4 : ¬ (ok (next s b n) false least = true) := by rw [h4']; decide
          have H4 := Lib.hid h4
          clear h4
          go_wp2_with fail
          go_ret2
          refine ⟨?_, ?_, ?_⟩
          · unfold solveR lastR; simp only [if_pos h1, if_neg (Int.not_lt.2 h2), if_pos h3, if_neg H4.out]; rfl
          · unfold solveR lastR; simp only [if_pos h1, if_neg (Int.not_lt.2 h2), if_pos h3, if_neg H4.out]; exact HJ2.out
          · have z := HZ1.out; simp only [World.size_alloc] at z; have z2 := HZ2.out; omega
      · skip
        go_wp2_with fail
        go_ret2
        refine ⟨?_, ?_, ?_⟩
        · unfold solveR lastR; simp only [if_pos h1, if_neg (Int.not_lt.2 h2), if_neg (Int.not_lt.2 h3)]; rfl
        · unfold solveR lastR; simp only [if_pos h1, if_neg (Int.not_lt.2 h2), if_neg (Int.not_lt.2 h3)]; exact HJ1.out
        · have z := HZ1.out; simp only [World.size_alloc] at z;  omega
  · have h1' : ok s b n = false := by simpa using h1
    have H1 := Lib.hid h1
    clear h1
    go_wp2_with fail
    go_ret2
    refine ⟨?_, ?_, ?_⟩
    · unfold solveR lastR; simp only [if_neg H1.out]; rfl
    · unfold solveR lastR; simp only [if_neg H1.out]; exact HJ1.out
    · have z := HZ1.out; simp only [World.size_alloc] at z;  omega
end Go.Proofs.Ytpoeebngkakmeaa.AskSame
