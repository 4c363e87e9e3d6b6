/- What is proved: the contract of the statement BoundAsks. Conditions: none but those in the statement. -/
import Derived.Test.YtpoeebngkakmeaaBoundRef
namespace Go.Proofs.Ytpoeebngkakmeaa.BoundAsks
open Go.RowKit Go.Proofs.Ytpoeebngkakmeaa.AskWords Go.Proofs.Ytpoeebngkakmeaa.BoundTell Go.Proofs.Ytpoeebngkakmeaa.BoundLaws Go.Proofs.Ytpoeebngkakmeaa.BoundRef
attribute [local go_sem] max2_i min2_i
theorem cellsOf_at : ∀ (l : List (Bool × Int)) (k : Nat) (x : Bool × Int), l[k]? = some x → (cellsOf l)[k * 2]? = some (.bool x.1) ∧ (cellsOf l)[k * 2 + 1]? = some (.int .i64 x.2)
  | [], k, x, h => by simp at h
  | y :: l, 0, x, h => by
    have : y = x := by simpa using h
    subst this
    exact ⟨rfl, rfl⟩
  | y :: l, k + 1, x, h => by
    have := cellsOf_at l k x (by simpa using h)
    have e : (k + 1) * 2 = k * 2 + 1 + 1 := by omega
    rw [e]
    exact this
/-- The row's elements, read. -/
theorem row_at {w : World} {base : Nat} {e : TypeId} {g n cap : Nat} {l : List (Bool × Int)} (h : w.ownsRow base e 2 (.slice (some ⟨g, 0, none⟩) n cap) n (cellsOf l)) (k : Nat) (x : Bool × Int) (hx : l[k]? = some x) :
    w.cell? ⟨g, k * 2, none⟩ = some (.bool x.1) ∧ w.cell? ⟨g, k * 2 + 1, none⟩ = some (.int .i64 x.2) := by
  obtain ⟨h1, h2⟩ := cellsOf_at l k x hx
  have e : ∀ j, ((⟨g, 0, none⟩ : Addr).add j) = ⟨g, j, none⟩ := fun j => by unfold Addr.add; split <;> simp_all
  have c1 := h.cells (g := g) rfl _ _ h1
  have c2 := h.cells (g := g) rfl _ _ h2
  rw [e] at c1 c2
  exact ⟨c1, c2⟩
def TA (a0 a1 a2 f : Int) (w : World) : Teller := ⟨a0, a1, a2, f, w.heap.size, w⟩
theorem asks_r (b : Bool) (n least most : Int) (t : Teller) (F : Nat) (hf : t.fails = (F : Int)) (L : List (Bool × Int)) (hL : L = askedL b n least most t.a0 t.a1) : AskTell.solveR t.out t.num t.ok nextT [] b n least most =
    ((if L.length ≤ F then ((L.length : Int), true) else (0, false)), L.take (F + 1)) := by
  subst hL
  simp only [AskTell.solveR, AskTell.lastR, Teller.out, Teller.num, Teller.ok, Teller.ans, nextT, askedL, hf, decide_eq_true_eq, List.length_nil, List.length_append, List.length_cons, List.nil_append, List.cons_append]
  by_cases h1 : most < t.a0
  · by_cases h2 : t.a1 < least
    · rcases F with _ | _ | _ | F
      · simp
      · simp [h1]
      · simp [h1, h2]
      · have e1 : (1 : Int) ≤ (F : Int) + 1 + 1 + 1 := by omega
        have e2 : (2 : Int) ≤ (F : Int) + 1 + 1 + 1 := by omega
        have e3 : (3 : Int) ≤ (F : Int) + 1 + 1 + 1 := by omega
        simp [h1, h2, e1, e2, e3]
    · rcases F with _ | _ | F
      · simp
      · simp [h1]
      · have e1 : (1 : Int) ≤ (F : Int) + 1 + 1 := by omega
        have e2 : (2 : Int) ≤ (F : Int) + 1 + 1 := by omega
        simp [h1, h2, e1, e2]
  · by_cases h2 : t.a0 < least
    · rcases F with _ | _ | F
      · simp
      · simp [h1, h2]
      · have e1 : (1 : Int) ≤ (F : Int) + 1 + 1 := by omega
        have e2 : (2 : Int) ≤ (F : Int) + 1 + 1 := by omega
        simp [h1, h2, e1, e2]
    · rcases F with _ | F
      · simp
      · have e1 : (1 : Int) ≤ (F : Int) + 1 := by omega
        simp [h1, h2, e1]
set_option maxHeartbeats 2000000 in
set_option maxRecDepth 100000 in
theorem BoundAsks_any (b : Bool) (n least most a0 a1 a2 f : Int) (w : World) (hf : (Lit.int .u8 f).wf = true) :
    Calls Try.prog 3 #[.agg #[.bool b, .int .i64 n], .int .i64 least, .int .i64 most, .agg #[.int .i64 a0, .int .i64 a1, .int .i64 a2], .int .u8 f] w (IsTrue w) := by
  have hfb := bounds_u8 hf
  obtain ⟨hf0, hf1⟩ := hfb
  have hmf : ∀ (fn : Fn) (first cap : Array Value) (w : World), (Instr.makeFunc fn first cap).run Try.prog w = .ok (.func fn first cap) w := fun _ _ _ _ => rfl
  obtain ⟨F, hF⟩ : ∃ F : Nat, f % 5 = (F : Int) := ⟨(f % 5).toNat, by omega⟩
  have hF4 : F ≤ 4 := by omega
  obtain ⟨L, hL⟩ : ∃ L, L = askedL b n least most a0 a1 := ⟨_, rfl⟩
  have hal := asked_len b n least most a0 a1
  rw [← hL] at hal
  obtain ⟨hl1, hl3⟩ := hal
  have HL := Lib.hid hL
  clear hf hL
  go_enter Try.func3, Try.ntmps3
  go_wp2_with fail
  refine (awake_any _).mono ?_
  rintro e w1 ⟨rfl, hb1⟩
  have H1 := Lib.hid hb1
  clear hb1
  have g0 : w1.heap[w.heap.size]? = some (.cells #[.bool b, .int .i64 n] 23 (0, 0)) := (H1.out.block _ (by simp <;> omega)).trans (blk_alloc (blk_new _ _) _)
  have g1 : w1.heap[w.heap.size + 1]? = some (.cells #[.int .i64 a0, .int .i64 a1, .int .i64 a2] 24 (0, 0)) := (H1.out.block _ (by simp <;> omega)).trans (by have := blk_new (w.alloc (.cells #[.bool b, .int .i64 n] 23)) (.cells #[.int .i64 a0, .int .i64 a1, .int .i64 a2] 24); simp only [World.size_alloc] at this; exact this)
  have c00 : w1.cell? ⟨w.heap.size, 0, none⟩ = some (.bool b) := (blk_cell g0 0).trans rfl
  have c01 : w1.cell? ⟨w.heap.size, 1, none⟩ = some (.int .i64 n) := (blk_cell g0 1).trans rfl
  have c10 : w1.cell? ⟨w.heap.size + 1, 0, none⟩ = some (.int .i64 a0) := (blk_cell g1 0).trans rfl
  have c11 : w1.cell? ⟨w.heap.size + 1, 1, none⟩ = some (.int .i64 a1) := (blk_cell g1 1).trans rfl
  have c12 : w1.cell? ⟨w.heap.size + 1, 2, none⟩ = some (.int .i64 a2) := (blk_cell g1 2).trans rfl
  have G0 := Lib.hid g0
  have G1 := Lib.hid g1
  clear g0 g1
  have l0 : w.heap.size < w1.heap.size := by have := H1.out.size; simp at this; omega
  have l1 : w.heap.size + 1 < w1.heap.size := by have := H1.out.size; simp at this; omega
  have HJ : Hid (TJ (TA a0 a1 a2 (F : Int) w1) ((w1.alloc (.cells #[.int .i64 a0, .int .i64 a1, .int .i64 a2, .int .i64 (F : Int), .slice none 0 0] 29)).heap.size + 1) [] (w1.alloc (.cells #[.int .i64 a0, .int .i64 a1, .int .i64 a2, .int .i64 (F : Int), .slice none 0 0] 29))) :=
    Lib.hid ⟨⟨.slice none 0 0, blk_new _ _, World.ownsRow_nil _ _ _ _, by simp [Value.ownBlock]⟩, by simp [TA]; omega, (Below.refl _ _).alloc (Nat.le_refl _) _⟩
  go_wp2_with fail
  refine (AskTell.solve_any w1.heap.size (asked_tell (TA a0 a1 a2 (F : Int) w1)) [] b n least most _ HJ.out rfl).mono ?_
  rintro e w2 ⟨rfl, hj, hz⟩
  rw [asks_r b n least most (TA a0 a1 a2 (F : Int) w1) F rfl L HL.out] at hj ⊢
  obtain ⟨⟨v, hb, hown, _⟩, _, hbel⟩ := hj
  rcases Nat.lt_or_ge F L.length with hw | hw
  · have hM : (L.take (F + 1)).length = F + 1 := by rw [List.length_take]; omega
    rw [hM] at hown
    have hw' : ¬ L.length ≤ F := by omega
    simp only [if_neg hw']
    obtain ⟨g, cap, rfl, hg1, hg2⟩ := hown.form (by omega)
    have e10 : w2.cell? ⟨w.heap.size, 0, none⟩ = some (.bool b) := (hbel.cell (p := ⟨w.heap.size, 0, none⟩) l0).trans c00
    have e11 : w2.cell? ⟨w.heap.size, 1, none⟩ = some (.int .i64 n) := (hbel.cell (p := ⟨w.heap.size, 1, none⟩) l0).trans c01
    have e20 : w2.cell? ⟨w.heap.size + 1, 0, none⟩ = some (.int .i64 a0) := (hbel.cell (p := ⟨w.heap.size + 1, 0, none⟩) l1).trans c10
    have e21 : w2.cell? ⟨w.heap.size + 1, 1, none⟩ = some (.int .i64 a1) := (hbel.cell (p := ⟨w.heap.size + 1, 1, none⟩) l1).trans c11
    have e22 : w2.cell? ⟨w.heap.size + 1, 2, none⟩ = some (.int .i64 a2) := (hbel.cell (p := ⟨w.heap.size + 1, 2, none⟩) l1).trans c12
    clear c00 c01 c10 c11 c12 hz
    have HG2 := Lib.hid hg2
    have HB := Lib.hid hb
    have HOWN := Lib.hid hown
    have HBEL := Lib.hid hbel
    clear hg1 hg2 hb hown hbel HJ
    go_wp2_with fail
    refine (ref_any b n least most a0 a1 a2 _).mono ?_
    rintro e w3 ⟨h, caph, rfl, hown3, hbel3⟩
    rw [← HL.out] at hown3 ⊢
    have HOWN3 := Lib.hid hown3
    have HBEL3 := Lib.hid hbel3
    clear hown3 hbel3 e10 e11 e20 e21 e22
    have c4 : w3.cell? ⟨w1.heap.size, 4, none⟩ = some (.slice (some ⟨g, 0, none⟩) (F + 1) cap) := (HBEL3.out.cell (p := ⟨w1.heap.size, 4, none⟩) (blk_lt HB.out)).trans ((blk_cell HB.out 4).trans rfl)
    have HR1 : Hid (∀ (k : Nat) (x : Bool × Int), k < (F + 1) → L[k]? = some x → w3.cell? ⟨g, k * 2, none⟩ = some (.bool x.1) ∧ w3.cell? ⟨g, k * 2 + 1, none⟩ = some (.int .i64 x.2)) := Lib.hid fun k x hk hx => by
      have hk' : (L.take (F + 1))[k]? = some x := by
        skip
        rw [List.getElem?_take_of_lt (by omega)]
        exact hx
      obtain ⟨h1, h2⟩ := row_at HOWN.out k x hk'
      exact ⟨(HBEL3.out.cell (p := ⟨g, k * 2, none⟩) HG2.out).trans h1, (HBEL3.out.cell (p := ⟨g, k * 2 + 1, none⟩) HG2.out).trans h2⟩
    have HR2 : Hid (∀ (k : Nat) (x : Bool × Int), L[k]? = some x → w3.cell? ⟨h, k * 2, none⟩ = some (.bool x.1) ∧ w3.cell? ⟨h, k * 2 + 1, none⟩ = some (.int .i64 x.2)) := Lib.hid fun k x hx => row_at HOWN3.out k x hx
    have HEND : Hid (∀ q : Nat, Below w.heap.size w (w3.drewN q)) := Lib.hid fun q => by
      have b1 := H1.out
      have b2 := HBEL.out
      have b3 := HBEL3.out
      have z1 := b1.size
      have z2 := b2.size
      simp only [World.size_alloc] at z1
      have a0 : Below w.heap.size w w1 := (((Below.refl _ _).alloc (Nat.le_refl _) _).alloc (by simp) _).trans (b1.mono (by simp <;> omega))
      have z3 : w1.heap.size ≤ w2.heap.size := z2
      exact below_drewN ((a0.trans (b2.mono (show w.heap.size ≤ w1.heap.size by omega))).trans (b3.mono (by omega))) q
    go_wp2_with fail
    all_goals
      go_loopw [59] (fun i wr => ∃ k q : Nat, k ≤ (F + 1) ∧ i = .int .i64 k ∧ wr = w3.drewN q) (fun i _ => (F + 1) - (intOf i).toNat)
      case atStart => exact ⟨0, 0, Nat.zero_le _, rfl, rfl⟩
      case round =>
        obtain ⟨k, q, hk, rfl, rfl⟩ := hrel
        by_cases hlt : k < (F + 1)
        · have hlt2 : k < L.length := by omega
          obtain ⟨x, hx⟩ : ∃ x, L[k]? = some x := ⟨L[k], List.getElem?_eq_getElem hlt2⟩
          obtain ⟨p1, p2⟩ := HR1.out k x hlt hx
          obtain ⟨p3, p4⟩ := HR2.out k x hx
          clear hx
          go_wp2
          go_quiet (fail)
          go_wp2
          go_roundw
          case rel => exact ⟨k + 1, _, by omega, by go_num, rfl⟩
          case measure => simp [intOf]; omega
        · go_wp2
          go_ret
          exact ⟨rfl, HEND.out q⟩
  · have hM : (L.take (F + 1)).length = L.length := by rw [List.length_take]; omega
    rw [hM] at hown
    simp only [if_pos hw]
    obtain ⟨g, cap, rfl, hg1, hg2⟩ := hown.form (by omega)
    have e10 : w2.cell? ⟨w.heap.size, 0, none⟩ = some (.bool b) := (hbel.cell (p := ⟨w.heap.size, 0, none⟩) l0).trans c00
    have e11 : w2.cell? ⟨w.heap.size, 1, none⟩ = some (.int .i64 n) := (hbel.cell (p := ⟨w.heap.size, 1, none⟩) l0).trans c01
    have e20 : w2.cell? ⟨w.heap.size + 1, 0, none⟩ = some (.int .i64 a0) := (hbel.cell (p := ⟨w.heap.size + 1, 0, none⟩) l1).trans c10
    have e21 : w2.cell? ⟨w.heap.size + 1, 1, none⟩ = some (.int .i64 a1) := (hbel.cell (p := ⟨w.heap.size + 1, 1, none⟩) l1).trans c11
    have e22 : w2.cell? ⟨w.heap.size + 1, 2, none⟩ = some (.int .i64 a2) := (hbel.cell (p := ⟨w.heap.size + 1, 2, none⟩) l1).trans c12
    clear c00 c01 c10 c11 c12 hz
    have HG2 := Lib.hid hg2
    have HB := Lib.hid hb
    have HOWN := Lib.hid hown
    have HBEL := Lib.hid hbel
    clear hg1 hg2 hb hown hbel HJ
    go_wp2_with fail
    refine (ref_any b n least most a0 a1 a2 _).mono ?_
    rintro e w3 ⟨h, caph, rfl, hown3, hbel3⟩
    rw [← HL.out] at hown3 ⊢
    have HOWN3 := Lib.hid hown3
    have HBEL3 := Lib.hid hbel3
    clear hown3 hbel3 e10 e11 e20 e21 e22
    have c4 : w3.cell? ⟨w1.heap.size, 4, none⟩ = some (.slice (some ⟨g, 0, none⟩) L.length cap) := (HBEL3.out.cell (p := ⟨w1.heap.size, 4, none⟩) (blk_lt HB.out)).trans ((blk_cell HB.out 4).trans rfl)
    have HR1 : Hid (∀ (k : Nat) (x : Bool × Int), k < L.length → L[k]? = some x → w3.cell? ⟨g, k * 2, none⟩ = some (.bool x.1) ∧ w3.cell? ⟨g, k * 2 + 1, none⟩ = some (.int .i64 x.2)) := Lib.hid fun k x hk hx => by
      have hk' : (L.take (F + 1))[k]? = some x := by
        skip
        rw [List.getElem?_take_of_lt (by omega)]
        exact hx
      obtain ⟨h1, h2⟩ := row_at HOWN.out k x hk'
      exact ⟨(HBEL3.out.cell (p := ⟨g, k * 2, none⟩) HG2.out).trans h1, (HBEL3.out.cell (p := ⟨g, k * 2 + 1, none⟩) HG2.out).trans h2⟩
    have HR2 : Hid (∀ (k : Nat) (x : Bool × Int), L[k]? = some x → w3.cell? ⟨h, k * 2, none⟩ = some (.bool x.1) ∧ w3.cell? ⟨h, k * 2 + 1, none⟩ = some (.int .i64 x.2)) := Lib.hid fun k x hx => row_at HOWN3.out k x hx
    have HEND : Hid (∀ q : Nat, Below w.heap.size w (w3.drewN q)) := Lib.hid fun q => by
      have b1 := H1.out
      have b2 := HBEL.out
      have b3 := HBEL3.out
      have z1 := b1.size
      have z2 := b2.size
      simp only [World.size_alloc] at z1
      have a0 : Below w.heap.size w w1 := (((Below.refl _ _).alloc (Nat.le_refl _) _).alloc (by simp) _).trans (b1.mono (by simp <;> omega))
      have z3 : w1.heap.size ≤ w2.heap.size := z2
      exact below_drewN ((a0.trans (b2.mono (show w.heap.size ≤ w1.heap.size by omega))).trans (b3.mono (by omega))) q
    go_wp2_with fail
    all_goals
      go_loopw [59] (fun i wr => ∃ k q : Nat, k ≤ L.length ∧ i = .int .i64 k ∧ wr = w3.drewN q) (fun i _ => L.length - (intOf i).toNat)
      case atStart => exact ⟨0, 0, Nat.zero_le _, rfl, rfl⟩
      case round =>
        obtain ⟨k, q, hk, rfl, rfl⟩ := hrel
        by_cases hlt : k < L.length
        · have hlt2 : k < L.length := by omega
          obtain ⟨x, hx⟩ : ∃ x, L[k]? = some x := ⟨L[k], List.getElem?_eq_getElem hlt2⟩
          obtain ⟨p1, p2⟩ := HR1.out k x hlt hx
          obtain ⟨p3, p4⟩ := HR2.out k x hx
          clear hx
          go_wp2
          go_quiet (fail)
          go_wp2
          go_roundw
          case rel => exact ⟨k + 1, _, by omega, by go_num, rfl⟩
          case measure => simp [intOf]; omega
        · go_wp2
          go_ret
          exact ⟨rfl, HEND.out q⟩
end Go.Proofs.Ytpoeebngkakmeaa.BoundAsks
