/- What is proved: small laws on worlds that the contracts of this claim share. Conditions: none but those in each statement. -/
import Derived.WalkKit
import Derived.Below
import Derived.WalkSmall
import Derived.Handy
import Derived.Lib.Hide
namespace Go.Proofs.Ytpoeebngkakmeaa.AskWords
open Go.RowKit
set_option linter.unusedVariables false
set_option linter.unusedSimpArgs false
theorem blk_set {w : World} {g : Nat} {t : TypeId} {cs : Array Value} {fz : Nat × Nat} (h : w.heap[g]? = some (.cells cs t fz)) (i : Nat) (u : Value) : (w.setCell ⟨g, i, none⟩ u).heap[g]? = some (.cells (cs.setIfInBounds i u) t fz) := by
  simp [World.setCell, Array.getElem?_modify, h]
theorem blk_lt {w : World} {g : Nat} {o : Obj} (h : w.heap[g]? = some o) : g < w.heap.size := (Array.getElem?_eq_some_iff.1 h).1
theorem blk_cell {w : World} {g : Nat} {t : TypeId} {cs : Array Value} {fz : Nat × Nat} (h : w.heap[g]? = some (.cells cs t fz)) (i : Nat) : w.cell? ⟨g, i, none⟩ = cs[i]? := by simp [World.cell?, h]
theorem blk_frozen {w : World} {g : Nat} {t : TypeId} {cs : Array Value} (h : w.heap[g]? = some (.cells cs t (0, 0))) (i : Nat) : w.frozen? ⟨g, i, none⟩ = false := by simp [World.frozen?, h]
theorem blk_alloc {w : World} {g : Nat} {o : Obj} (h : w.heap[g]? = some o) (o' : Obj) : (w.alloc o').heap[g]? = some o := by
  have := blk_lt h
  rw [Below.heap_alloc _ _ _ this, h]
theorem blk_new (w : World) (o : Obj) : (w.alloc o).heap[w.heap.size]? = some o := by
  show (w.heap.push o)[w.heap.size]? = _
  simp
/-- A row of whole numbers that has just been laid. -/
theorem lit_row (w : World) (l : List Int) (t : TypeId) (k : Nat) (x : Int) (h : l[k]? = some x) : (w.alloc (.cells (l.map (fun n => Value.int .i64 n)).toArray t)).cell? ⟨w.heap.size, k, none⟩ = some (.int .i64 x) := by
  rw [blk_cell (blk_new w _) k]
  simp [h]
theorem blk_drewN {w : World} {g : Nat} {o : Obj} (h : w.heap[g]? = some o) (n : Nat) : (w.drewN n).heap[g]? = some o := h
theorem blk_drew {w : World} {g : Nat} {o : Obj} (h : w.heap[g]? = some o) : (w.drew).heap[g]? = some o := h
/-- A call that answers true, and of what was there turns nothing. -/
def IsTrue (w : World) (e : Ending) (w' : World) : Prop := e = .returned (.bool true) ∧ Below w.heap.size w w'
theorem ret_int {k : IntKind} {a b : Int} (h : a = b) : Ending.returned (.int k a) = .returned (.int k b) := by rw [h]
theorem tdiv2_neg (n : Int) (h : n < 0) : n.tdiv 2 = -((-n) / 2) := by
  have e : n = -(-n) := by omega
  rw [e, Int.neg_tdiv, Int.tdiv_eq_ediv_of_nonneg (by omega)]
  simp
theorem tmod2_neg (n : Int) (h : n < 0) : n.tmod 2 = -((-n) % 2) := by
  have e : n = -(-n) := by omega
  rw [e, Int.neg_tmod, Int.tmod_eq_emod_of_nonneg (by omega)]
  simp
theorem bcell {W w1 : World} (hb : Below W.heap.size W w1) : (∀ b o, b < W.heap.size → w1.cell? ⟨b, o, none⟩ = W.cell? ⟨b, o, none⟩) ∧ (∀ b o, b < W.heap.size → w1.frozen? ⟨b, o, none⟩ = W.frozen? ⟨b, o, none⟩) :=
  ⟨fun b o h => hb.cell (p := ⟨b, o, none⟩) h, fun b o h => hb.frozen (p := ⟨b, o, none⟩) h⟩
theorem wrap64_rng (n : Int) : -9223372036854775808 ≤ wrap64 n ∧ wrap64 n ≤ 9223372036854775807 := by unfold wrap64; omega
theorem wrap64_id (n : Int) (h0 : -9223372036854775808 ≤ n) (h1 : n ≤ 9223372036854775807) : wrap64 n = n := by unfold wrap64; omega
theorem ret_bool {a b : Bool} (h : a = b) : Ending.returned (.bool a) = .returned (.bool b) := by rw [h]
theorem own_lit (w : World) {base : Nat} (e : TypeId) (size n : Nat) (cs : List Value) (hb : base ≤ w.heap.size) (hn : n ≤ maxLen) (hs : cs.length = n * size) :
    (w.alloc (.cells cs.toArray e)).ownsRow base e size (.slice (some ⟨w.heap.size, 0, none⟩) n n) n cs :=
  ⟨hs, .inr ⟨w.heap.size, n, cs.toArray, rfl, hb, heap_alloc_new w _, Nat.le_refl _, hn, by simpa using hs, by simp [← hs]⟩⟩
theorem max2_i (k k' : IntKind) (x y : Int) : Builtin.max2 (.int k x) (.int k' y) = pure (.int k (if x < y then y else x)) := by simp only [Builtin.max2, gt_iff_lt]
theorem min2_i (k k' : IntKind) (x y : Int) : Builtin.min2 (.int k x) (.int k' y) = pure (.int k (if y < x then y else x)) := by simp only [Builtin.min2]
/-- What a walk knows of its world: of what was there nothing has turned; some blocks of its own, whole, the youngest first. -/
structure Keep (W : World) (bs : List (Nat × Obj)) (w : World) : Prop where
  bel : Below W.heap.size W w
  blk : ∀ x, x ∈ bs → W.heap.size ≤ x.1 ∧ w.heap[x.1]? = some x.2
  dec : bs.Pairwise (fun x y => y.1 < x.1)
theorem Keep.start (W : World) : Keep W [] W := ⟨Below.refl _ _, (fun _ h => by cases h), List.Pairwise.nil⟩
theorem Keep.step {W w w' : World} {bs : List (Nat × Obj)} (h : Keep W bs w) (hb : Below w.heap.size w w') : Keep W bs w' := by
  refine ⟨h.bel.trans (hb.mono h.bel.size), fun x hx => ⟨(h.blk x hx).1, ?_⟩, h.dec⟩
  have h1 := (h.blk x hx).2
  rw [hb.block _ (blk_lt h1), h1]
theorem Keep.drew {W w : World} {bs : List (Nat × Obj)} (h : Keep W bs w) : Keep W bs w.drew := ⟨h.bel.drew, h.blk, h.dec⟩
theorem Keep.drewN {W w : World} {bs : List (Nat × Obj)} (h : Keep W bs w) (n : Nat) : Keep W bs (w.drewN n) := ⟨below_drewN h.bel n, h.blk, h.dec⟩
theorem Keep.skip {W w : World} {bs : List (Nat × Obj)} (h : Keep W bs w) (o : Obj) : Keep W bs (w.alloc o) :=
  ⟨h.bel.alloc h.bel.size _, fun x hx => ⟨(h.blk x hx).1, blk_alloc (h.blk x hx).2 _⟩, h.dec⟩
theorem Keep.alloc {W w : World} {bs : List (Nat × Obj)} (h : Keep W bs w) (o : Obj) : Keep W ((w.heap.size, o) :: bs) (w.alloc o) := by
  have h1 := h.skip o
  refine ⟨h1.bel, fun x hx => ?_, List.Pairwise.cons (fun x hx => blk_lt (h.blk x hx).2) h.dec⟩
  rcases List.mem_cons.1 hx with rfl | hx
  · exact ⟨h.bel.size, blk_new _ _⟩
  · exact h1.blk x hx
/-- A new block, its number spelled as the walk spells it. -/
theorem Keep.allocAt {W w : World} {bs : List (Nat × Obj)} (h : Keep W bs w) (o : Obj) {n : Nat} (hn : w.heap.size = n) : Keep W ((n, o) :: bs) (w.alloc o) := by
  subst hn
  exact h.alloc o
theorem Keep.tail {W w : World} {x : Nat × Obj} {bs : List (Nat × Obj)} (h : Keep W (x :: bs) w) : Keep W bs w := ⟨h.bel, fun y hy => h.blk y (List.mem_cons_of_mem _ hy), (List.pairwise_cons.1 h.dec).2⟩
theorem pair_ne {l1 l2 : List (Nat × Obj)} {b : Nat} {o : Obj} (h : (l1 ++ (b, o) :: l2).Pairwise (fun x y => y.1 < x.1)) : ∀ x, x ∈ l1 ∨ x ∈ l2 → x.1 ≠ b := by
  intro x hx
  rw [List.pairwise_append] at h
  obtain ⟨_, h2, h3⟩ := h
  rcases hx with hx | hx
  · have := h3 x hx (b, o) List.mem_cons_self
    exact Nat.ne_of_gt this
  · have := (List.pairwise_cons.1 h2).1 x hx
    exact Nat.ne_of_lt this
theorem pair_swap {l1 l2 : List (Nat × Obj)} {b : Nat} {o o' : Obj} (h : (l1 ++ (b, o) :: l2).Pairwise (fun x y => y.1 < x.1)) : (l1 ++ (b, o') :: l2).Pairwise (fun x y => y.1 < x.1) := by
  rw [List.pairwise_append] at h ⊢
  obtain ⟨h1, h2, h3⟩ := h
  refine ⟨h1, List.pairwise_cons.2 (List.pairwise_cons.1 h2), fun x hx y hy => ?_⟩
  rcases List.mem_cons.1 hy with rfl | hy
  · exact h3 x hx (b, o) List.mem_cons_self
  · exact h3 x hx y (List.mem_cons_of_mem _ hy)
theorem Keep.setIn {W w : World} (l1 : List (Nat × Obj)) {l2 : List (Nat × Obj)} {b : Nat} {cs : Array Value} {t : TypeId} {fz : Nat × Nat} (h : Keep W (l1 ++ (b, .cells cs t fz) :: l2) w) (i : Nat) (v : Value) :
    Keep W (l1 ++ (b, .cells (cs.setIfInBounds i v) t fz) :: l2) (w.setCell ⟨b, i, none⟩ v) := by
  have h0 := h.blk (b, .cells cs t fz) (by simp)
  have hne := pair_ne h.dec
  refine ⟨h.bel.setCell h0.1 _, fun x hx => ?_, pair_swap h.dec⟩
  rcases List.mem_append.1 hx with hx | hx
  · have h1 := h.blk x (List.mem_append.2 (.inl hx))
    exact ⟨h1.1, (Below.heap_setCell _ _ _ _ (hne x (.inl hx))).trans h1.2⟩
  · rcases List.mem_cons.1 hx with rfl | hx
    · exact ⟨h0.1, blk_set h0.2 i v⟩
    · have h1 := h.blk x (List.mem_append.2 (.inr (List.mem_cons_of_mem _ hx)))
      exact ⟨h1.1, (Below.heap_setCell _ _ _ _ (hne x (.inr hx))).trans h1.2⟩
theorem Keep.set {W w : World} {bs : List (Nat × Obj)} {b : Nat} {cs : Array Value} {t : TypeId} {fz : Nat × Nat} (h : Keep W ((b, .cells cs t fz) :: bs) w) (i : Nat) (v : Value) :
    Keep W ((b, .cells (cs.setIfInBounds i v) t fz) :: bs) (w.setCell ⟨b, i, none⟩ v) := Keep.setIn [] h i v
theorem Keep.cell {W w : World} {bs : List (Nat × Obj)} (h : Keep W bs w) {b : Nat} {cs : Array Value} {t : TypeId} {fz : Nat × Nat} (hm : (b, .cells cs t fz) ∈ bs) (o : Nat) : w.cell? ⟨b, o, none⟩ = cs[o]? := blk_cell (h.blk _ hm).2 o
theorem Keep.free {W w : World} {bs : List (Nat × Obj)} (h : Keep W bs w) {b : Nat} {cs : Array Value} {t : TypeId} (hm : (b, .cells cs t (0, 0)) ∈ bs) (o : Nat) : w.frozen? ⟨b, o, none⟩ = false := blk_frozen (h.blk _ hm).2 o
theorem Keep.lt {W w : World} {bs : List (Nat × Obj)} (h : Keep W bs w) {b : Nat} {o : Obj} (hm : (b, o) ∈ bs) : b < w.heap.size := blk_lt (h.blk _ hm).2
theorem Keep.lt0 {W w : World} {bs : List (Nat × Obj)} {b : Nat} {o : Obj} (h : Keep W ((b, o) :: bs) w) : b < w.heap.size := h.lt List.mem_cons_self
/-- The cells of the youngest block; of the next ones. -/
theorem Keep.c0 {W w : World} {bs : List (Nat × Obj)} {b : Nat} {cs : Array Value} {t : TypeId} {fz : Nat × Nat} (h : Keep W ((b, .cells cs t fz) :: bs) w) : ∀ o, w.cell? ⟨b, o, none⟩ = cs[o]? := fun o => h.cell List.mem_cons_self o
theorem Keep.f0 {W w : World} {bs : List (Nat × Obj)} {b : Nat} {cs : Array Value} {t : TypeId} (h : Keep W ((b, .cells cs t (0, 0)) :: bs) w) : ∀ o, w.frozen? ⟨b, o, none⟩ = false := fun o => h.free List.mem_cons_self o
end Go.Proofs.Ytpoeebngkakmeaa.AskWords
