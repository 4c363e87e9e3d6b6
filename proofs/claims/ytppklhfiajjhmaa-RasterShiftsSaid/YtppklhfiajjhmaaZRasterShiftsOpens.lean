/-  What is proved: an argument that reads as data (whole numbers, bools, structs, slices, arrays of these) is, in cells, a value of the print's kinds, with each number in its bounds. Conditions: the type's own shape, asked of the program. -/
import Derived.Test.YtppklhfiajjhmaaZRasterShiftsWWords
import Derived.Test.YtppklhfiajjhmaaZRasterShiftsWArr
import Derived.Deep.Slices
import Derived.OpenShut
import Derived.ProofKit
import Derived.SizedLaws
namespace Go.Proofs.Ytppklhfiajjhmaa.Opens
open Go.RowKit Go.ChangeShapes Go.WideShapes Go.Deep Go.Proofs.YtppklhfiajjhmaaW.PrintWords

/-- Whatever reads as a datum of type t is, in cells, some y of kind d, of which Q holds. -/
def Opens (P : Program) (t : TypeId) {α : Type} (d : Kd α) (Q : α → Prop) : Prop :=
  P.cellsOf t = d.sz ∧ ∀ (H : Type) (enc : TypeId × Value → H) (w : World) (base : Nat) (spare : Nat → Bool) (held : Bool) (fuel : Nat) (cs : List Value) (x : DataW H × List MemPlace), DataW.trod enc P w base spare held fuel t cs = some x → ∃ y, d.K w y cs ∧ Q y

theorem opens_int {P : Program} {t : TypeId} {k : IntKind} (ht : P.underlying t = some (.int k)) (hc : P.cellsOf t = 1) : Opens P t (Kd.int k) (fun y => (Lit.int k y).wf = true) := by
  refine ⟨hc, fun H enc w base spare held fuel cs x h => ?_⟩
  obtain ⟨n, h1, _, h3⟩ := DataW.trod_int ht h
  exact ⟨n, h1, h3⟩

/-- An int64 (an int). -/
def I64 (n : Int) : Prop := -9223372036854775808 ≤ n ∧ n ≤ 9223372036854775807

theorem opens_i64 {P : Program} {t : TypeId} (ht : P.underlying t = some (.int .i64)) (hc : P.cellsOf t = 1) : Opens P t (Kd.int .i64) I64 := by
  refine ⟨hc, fun H enc w base spare held fuel cs x h => ?_⟩
  obtain ⟨n, h1, _, h3⟩ := DataW.trod_int ht h
  exact ⟨n, h1, bounds_i64 h3⟩

theorem opens_bool {P : Program} {t : TypeId} (ht : P.underlying t = some .bool) (hc : P.cellsOf t = 1) : Opens P t Kd.bool (fun _ => True) := by
  refine ⟨hc, fun H enc w base spare held fuel cs x h => ?_⟩
  obtain ⟨n, h1, _⟩ := DataW.trod_bool ht h
  exact ⟨n, h1, trivial⟩

theorem list_of {α : Type} [Inhabited α] {p : Nat → α → Prop} (n : Nat) (h : ∀ i, i < n → ∃ x, p i x) : ∃ xs : List α, xs.length = n ∧ ∀ i x, xs[i]? = some x → p i x := by
  obtain ⟨f, hf⟩ := choose_lt (n := n) (p := p) h
  refine ⟨(List.range n).map f, by simp, fun i x hx => ?_⟩
  rw [List.getElem?_map] at hx
  by_cases hi : i < n
  · rw [List.getElem?_range hi] at hx
    simp at hx
    exact hx ▸ hf i hi
  · rw [List.getElem?_eq_none (by simp; omega)] at hx
    simp at hx

theorem opens_slice {P : Program} {t e : TypeId} {α : Type} [Inhabited α] {d : Kd α} {Q : α → Prop} (ht : P.underlying t = some (.slice e)) (hc : P.cellsOf t = 1) (he : Opens P e d Q) :
    Opens P t (Kd.slice e d) (fun xs => ∀ x ∈ xs, Q x) := by
  refine ⟨hc, fun H enc w base spare held fuel cs x h => ?_⟩
  rcases open_slice ht h with ⟨rfl, _⟩ | ⟨a, len, cap, m, n, D, Pl, rfl, _, hl, hm, hmm, _, hi⟩
  · exact ⟨[], ⟨none, 0, rfl, Nat.le_refl _, rfl, by simp, by simp⟩, by simp⟩
  have hlm : len ≤ m := by rw [hmm]; split <;> omega
  obtain ⟨xs, hlen, hxs⟩ := list_of (α := α) (p := fun i y => ∃ c, c.length = d.sz ∧ d.K w y c ∧ (∀ j u, c[j]? = some u → w.cell? (a.add (i * d.sz + j)) = some u) ∧ Q y) len (fun i hil => by
    obtain ⟨cs', h1, h2⟩ := hi i (by omega)
    obtain ⟨y, hy, hq⟩ := he.2 H enc w base spare held n cs' _ h2
    obtain ⟨_, hcl, hat⟩ := World.cells?_some h1
    rw [he.1] at hcl hat
    refine ⟨y, cs', hcl, hy, fun j u hj => ?_, hq⟩
    have hjl : j < cs'.length := (List.getElem?_eq_some_iff.1 hj).1
    have h3 := hat j (by omega)
    rw [Go.Deep.add_add] at h3
    exact h3.trans hj)
  subst hlen
  refine ⟨xs, ⟨some a, cap, rfl, hl, rfl, by unfold maxLen at hm; omega, fun _ => ⟨a, rfl, fun j p hj => ?_⟩⟩, fun x hx => ?_⟩
  · obtain ⟨c, h1, h2, h3, _⟩ := hxs j p hj
    exact ⟨c, h1, h2, h3⟩
  · obtain ⟨j, hj, rfl⟩ := List.mem_iff_getElem.1 hx
    obtain ⟨_, _, _, _, hq⟩ := hxs j _ (List.getElem?_eq_getElem hj)
    exact hq

theorem opens_arr {P : Program} {t e : TypeId} {α : Type} [Inhabited α] {d : Kd α} {Q : α → Prop} {n : Nat} (ht : P.underlying t = some (.array n e)) (hs : 0 < d.sz) (hc : P.cellsOf t = n * d.sz) (he : Opens P e d Q) :
    Opens P t (Kd.arr n d hs) (fun xs => ∀ x ∈ xs, Q x) := by
  refine ⟨hc, fun H enc w base spare held fuel cs x h => ?_⟩
  obtain ⟨ys, m, _, _, hl, hyl, hi⟩ := DataW.trod_array ht h
  obtain ⟨xs, hlen, hxs⟩ := list_of (α := α) (p := fun i y => d.K w y ((cs.drop (i * d.sz)).take d.sz) ∧ Q y) n (fun i hil => by
    have h1 := hi i hil
    rw [List.getElem?_eq_getElem (by omega), he.1] at h1
    exact he.2 H enc w base spare held m _ _ h1)
  refine ⟨xs, ⟨hlen, by rw [hl, hc, hlen], fun j p hj => (hxs j p hj).1⟩, fun x hx => ?_⟩
  obtain ⟨j, hj, rfl⟩ := List.mem_iff_getElem.1 hx
  exact (hxs j _ (List.getElem?_eq_getElem hj)).2

/-- The fields of a struct from number j on (the cells from off on, of tot in all). -/
def FO (P : Program) (fs : Array Field) (tot j off : Nat) {α : Type} (d : Kd α) (Q : α → Prop) : Prop :=
  ∀ (H : Type) (enc : TypeId × Value → H) (w : World) (base : Nat) (spare : Nat → Bool) (held : Bool) (n : Nat) (cs : List Value), cs.length = tot →
    (∀ (i : Nat) (f : Field), j ≤ i → fs[i]? = some f → ∃ y, DataW.trod enc P w base spare held n f.type ((cs.drop f.offset).take (P.cellsOf f.type)) = some y) → ∃ y, d.K w y (cs.drop off) ∧ Q y

theorem fo_last {P : Program} {fs : Array Field} {tot j off : Nat} {α : Type} {d : Kd α} {Q : α → Prop} {f : Field} (hf : fs[j]? = some f) (ho : f.offset = off) (ht : off + d.sz = tot) (he : Opens P f.type d Q) : FO P fs tot j off d Q := by
  intro H enc w base spare held n cs hl h
  obtain ⟨y, hy⟩ := h j f (Nat.le_refl _) hf
  obtain ⟨z, hz, hq⟩ := he.2 H enc w base spare held n _ _ hy
  refine ⟨z, ?_, hq⟩
  rw [ho, he.1, List.take_of_length_le (by rw [List.length_drop]; omega)] at hz
  exact hz

theorem fo_cons {P : Program} {fs : Array Field} {tot j off : Nat} {α β : Type} {a : Kd α} {b : Kd β} {Qa : α → Prop} {Qb : β → Prop} {f : Field} (hf : fs[j]? = some f) (ho : f.offset = off) (he : Opens P f.type a Qa)
    (hr : FO P fs tot (j + 1) (off + a.sz) b Qb) : FO P fs tot j off (Kd.pair a b) (fun y => Qa y.1 ∧ Qb y.2) := by
  intro H enc w base spare held n cs hl h
  obtain ⟨y, hy⟩ := h j f (Nat.le_refl _) hf
  obtain ⟨z, hz, hq⟩ := he.2 H enc w base spare held n _ _ hy
  obtain ⟨z2, hz2, hq2⟩ := hr H enc w base spare held n cs hl (fun i g hi hg => h i g (by omega) hg)
  rw [ho, he.1] at hz
  refine ⟨(z, z2), ⟨(cs.drop off).take a.sz, (cs.drop off).drop a.sz, (List.take_append_drop _ _).symm, hz, ?_⟩, hq, hq2⟩
  rw [List.drop_drop]
  exact hz2

theorem opens_struct {P : Program} {t : TypeId} {fs : Array Field} {α β : Type} {d : Kd α} {Q : α → Prop} {f : β → α} {g : α → β} (ht : P.underlying t = some (.struct fs)) (hc : P.cellsOf t = d.sz) (hg : ∀ y, f (g y) = y) (he : FO P fs d.sz 0 0 d Q) :
    Opens P t (Kd.iso d f) (fun x => Q (f x)) := by
  refine ⟨hc, fun H enc w base spare held fuel cs x h => ?_⟩
  obtain ⟨xs, n, _, _, hl, hxl, hi⟩ := DataW.trod_struct ht h
  obtain ⟨y, hy, hq⟩ := he H enc w base spare held n cs (hl.trans hc) (fun i f _ hf => by
    have h1 := hi i f hf
    have : i < fs.size := (Array.getElem?_eq_some_iff.1 hf).1
    rw [List.getElem?_eq_getElem (by omega)] at h1
    exact ⟨_, h1⟩)
  refine ⟨g y, ?_, ?_⟩
  · show d.K w (f (g y)) cs
    rw [hg]; exact hy
  · show Q (f (g y))
    rw [hg]; exact hq

/-! ### Arguments -/
section
variable {H : Type} {enc : TypeId × Value → H} {P : Program} {w : World} {base : Nat} {spare : Nat → Bool} {held : Bool} {t : TypeId} {v : Value} {dd : DataW H} {ps : List MemPlace} {r : Reach} {b0 : Nat}

/-- A slice that came in. -/
theorem arg_slice {e : TypeId} {α : Type} [Inhabited α] {d : Kd α} {Q : α → Prop} (ht : P.underlying t = some (.slice e)) (hc : P.cellsOf t = 1) (he : Opens P e d Q) (hv : Value.okWide P w r b0 t v) (h : DataW.Trod enc P w base spare held t v dd ps) :
    ∃ (A : Option Addr) (c : Nat) (xs : List α), v = .slice A xs.length c ∧ xs.length ≤ c ∧ Kd.C d w A xs.length xs ∧ ∀ x ∈ xs, Q x := by
  obtain ⟨a, len, cap, rfl⟩ := okWide_slice ht hv
  obtain ⟨fuel, hf⟩ := h
  obtain ⟨xs, ⟨A, c, h1, h2, h3⟩, hq⟩ := (opens_slice ht hc he).2 H enc w base spare held fuel _ _ hf
  simp only [Value.cells] at h1
  have h4 : Value.slice a len cap = .slice A xs.length c := by simpa using h1
  exact ⟨A, c, xs, h4, h2, h3, hq⟩

/-- A struct by value. -/
theorem arg_struct {fs : Array Field} {α : Type} {d : Kd α} {Q : α → Prop} (ht : P.underlying t = some (.struct fs)) (he : Opens P t d Q) (hv : Value.okWide P w r b0 t v) (h : DataW.Trod enc P w base spare held t v dd ps) :
    ∃ (y : α) (cs : List Value), v = .agg cs.toArray ∧ d.K w y cs ∧ Q y := by
  obtain ⟨cs, rfl, _⟩ := okWide_struct ht hv
  obtain ⟨fuel, hf⟩ := h
  obtain ⟨y, hy, hq⟩ := he.2 H enc w base spare held fuel _ _ hf
  exact ⟨y, cs.toList, by simp, by simpa [Value.cells] using hy, hq⟩

/-- An array by value. -/
theorem arg_array {n : Nat} {e : TypeId} {α : Type} {d : Kd α} {Q : α → Prop} (ht : P.underlying t = some (.array n e)) (he : Opens P t d Q) (hv : Value.okWide P w r b0 t v) (h : DataW.Trod enc P w base spare held t v dd ps) :
    ∃ (y : α) (cs : List Value), v = .agg cs.toArray ∧ d.K w y cs ∧ Q y := by
  have hv2 := hv
  simp only [Value.okWide, ht] at hv2
  obtain ⟨cs, rfl, _, _⟩ := hv2
  obtain ⟨fuel, hf⟩ := h
  obtain ⟨y, hy, hq⟩ := he.2 H enc w base spare held fuel _ _ hf
  exact ⟨y, cs.toList, by simp, by simpa [Value.cells] using hy, hq⟩
end
end Go.Proofs.Ytppklhfiajjhmaa.Opens
