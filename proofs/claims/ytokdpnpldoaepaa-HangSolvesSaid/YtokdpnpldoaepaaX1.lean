/- What is proved: words for a reckoner that carries out a function's code on a small memory of its own, and small laws on them. Conditions: none but those in each statement. -/
import Derived.WalkKit
import Derived.Below
import Derived.Orders
namespace Go.Proofs.Ytokdpnpldoaepaa.X
open Go Go.RowKit
set_option linter.unusedVariables false

/-- A value: one without places of the own memory, or made of such places (block, offset). -/
inductive MV where
  | val (v : Value)
  | ptr (b o : Nat)
  | sl (b o n c : Nat)
  | gs (b o n s : Nat)
  | fn (f : Nat) (first cap : List MV)
  | agg (l : List MV)
  | tup (l : List MV)
  deriving Inhabited

structure Blk where
  cells : List MV
  ty : Nat
abbrev Mem := List (Option Blk)
abbrev Out := MV × Mem

/-- Which block of the machine each block is, and how many cells it has. -/
structure Sg where
  f : Nat → Option Nat
  κ : Nat → Nat
instance : CoeFun Sg (fun _ => Nat → Option Nat) := ⟨Sg.f⟩
mutual
def RV (σ : Sg) : MV → Value → Prop
  | .val v, u => u = v
  | .ptr b o, u => ∃ g, σ b = some g ∧ u = .pointer (some ⟨g, o, none⟩)
  | .sl b o n c, u => ∃ g, σ b = some g ∧ u = .slice (some ⟨g, o, none⟩) n c
  | .gs b o n s, u => ∃ g c, σ b = some g ∧ u = .slice (some ⟨g, o, none⟩) n c ∧ n ≤ c ∧ o + c * s = σ.κ b
  | .fn f x y, u => ∃ xs ys, RVs σ x xs ∧ RVs σ y ys ∧ u = .func (.func f) xs.toArray ys.toArray
  | .agg l, u => ∃ xs, RVs σ l xs ∧ u = .agg xs.toArray
  | .tup l, u => ∃ xs, RVs σ l xs ∧ u = .tuple xs.toArray
def RVs (σ : Sg) : List MV → List Value → Prop
  | [], us => us = []
  | x :: l, us => ∃ u r, us = u :: r ∧ RV σ x u ∧ RVs σ l r
end

def Ext (σ τ : Sg) : Prop := ∀ b g, σ b = some g → τ b = some g ∧ τ.κ b = σ.κ b
theorem Ext.refl (σ : Sg) : Ext σ σ := fun _ _ h => ⟨h, rfl⟩
theorem Ext.trans {σ τ υ : Sg} (h : Ext σ τ) (k : Ext τ υ) : Ext σ υ := fun b g e => ⟨(k b g (h b g e).1).1, (k b g (h b g e).1).2.trans (h b g e).2⟩

mutual
theorem RV.ext {σ τ : Sg} (h : Ext σ τ) : ∀ (x : MV) (u : Value), RV σ x u → RV τ x u
  | .val v, u, e => by simp only [RV] at e ⊢; exact e
  | .ptr b o, u, e => by simp only [RV] at e ⊢; obtain ⟨g, e1, e2⟩ := e; exact ⟨g, (h _ _ e1).1, e2⟩
  | .sl b o n c, u, e => by simp only [RV] at e ⊢; obtain ⟨g, e1, e2⟩ := e; exact ⟨g, (h _ _ e1).1, e2⟩
  | .gs b o n s, u, e => by simp only [RV] at e ⊢; obtain ⟨g, c, e1, e2, e3, e4⟩ := e; exact ⟨g, c, (h _ _ e1).1, e2, e3, by rw [(h _ _ e1).2, e4]⟩
  | .fn f x y, u, e => by
    simp only [RV] at e ⊢; obtain ⟨xs, ys, e1, e2, e3⟩ := e
    exact ⟨xs, ys, RVs.ext h x xs e1, RVs.ext h y ys e2, e3⟩
  | .agg l, u, e => by simp only [RV] at e ⊢; obtain ⟨xs, e1, e2⟩ := e; exact ⟨xs, RVs.ext h l xs e1, e2⟩
  | .tup l, u, e => by simp only [RV] at e ⊢; obtain ⟨xs, e1, e2⟩ := e; exact ⟨xs, RVs.ext h l xs e1, e2⟩
theorem RVs.ext {σ τ : Sg} (h : Ext σ τ) : ∀ (l : List MV) (us : List Value), RVs σ l us → RVs τ l us
  | [], us, e => by simp only [RVs] at e ⊢; exact e
  | x :: l, us, e => by
    simp only [RVs] at e ⊢; obtain ⟨u, r, e1, e2, e3⟩ := e
    exact ⟨u, r, e1, RV.ext h x u e2, RVs.ext h l r e3⟩
end

section lists
variable {σ : Sg}
theorem RVs.length : ∀ {l : List MV} {us : List Value}, RVs σ l us → us.length = l.length
  | [], us, e => by simp only [RVs] at e; simp [e]
  | x :: l, us, e => by
    simp only [RVs] at e; obtain ⟨u, r, rfl, _, e3⟩ := e
    simp [RVs.length e3]
theorem RVs.get : ∀ {l : List MV} {us : List Value} (k : Nat) {x : MV}, RVs σ l us → l[k]? = some x → ∃ u, us[k]? = some u ∧ RV σ x u
  | [], us, k, x, e, h => by simp at h
  | y :: l, us, 0, x, e, h => by
    simp only [RVs] at e; obtain ⟨u, r, rfl, e2, _⟩ := e
    simp at h; subst h
    exact ⟨u, by simp, e2⟩
  | y :: l, us, k + 1, x, e, h => by
    simp only [RVs] at e; obtain ⟨u, r, rfl, _, e3⟩ := e
    simp at h
    obtain ⟨u', h1, h2⟩ := RVs.get k e3 h
    exact ⟨u', by simpa using h1, h2⟩
theorem RVs.none_get {l : List MV} {us : List Value} (k : Nat) (e : RVs σ l us) (h : l[k]? = none) : us[k]? = none := by
  have := e.length
  simp at h ⊢; omega
theorem RVs.set : ∀ {l : List MV} {us : List Value} (k : Nat) {x : MV} {u : Value}, RVs σ l us → RV σ x u → RVs σ (l.set k x) (us.set k u)
  | [], us, k, x, u, e, h => by simp only [RVs] at e; subst e; simp [RVs]
  | y :: l, us, 0, x, u, e, h => by
    simp only [RVs] at e; obtain ⟨v, r, rfl, _, e3⟩ := e
    simp only [List.set_cons_zero, RVs]; exact ⟨u, r, rfl, h, e3⟩
  | y :: l, us, k + 1, x, u, e, h => by
    simp only [RVs] at e; obtain ⟨v, r, rfl, e2, e3⟩ := e
    simp only [List.set_cons_succ, RVs]; exact ⟨v, r.set k u, rfl, e2, RVs.set k e3 h⟩
theorem RVs.append : ∀ {l m : List MV} {us vs : List Value}, RVs σ l us → RVs σ m vs → RVs σ (l ++ m) (us ++ vs)
  | [], m, us, vs, e, h => by simp only [RVs] at e; subst e; simpa using h
  | y :: l, m, us, vs, e, h => by
    simp only [RVs] at e; obtain ⟨v, r, rfl, e2, e3⟩ := e
    simp only [List.cons_append, RVs]; exact ⟨v, r ++ vs, rfl, e2, RVs.append e3 h⟩
theorem RVs.drop : ∀ {l : List MV} {us : List Value} (k : Nat), RVs σ l us → RVs σ (l.drop k) (us.drop k)
  | l, us, 0, e => by simpa using e
  | [], us, k + 1, e => by simp only [RVs] at e; subst e; simp [RVs]
  | y :: l, us, k + 1, e => by
    simp only [RVs] at e; obtain ⟨v, r, rfl, _, e3⟩ := e
    simpa using RVs.drop k e3
theorem RVs.take : ∀ {l : List MV} {us : List Value} (k : Nat), RVs σ l us → RVs σ (l.take k) (us.take k)
  | l, us, 0, e => by simp [RVs]
  | [], us, k + 1, e => by simp only [RVs] at e; subst e; simp [RVs]
  | y :: l, us, k + 1, e => by
    simp only [RVs] at e; obtain ⟨v, r, rfl, e2, e3⟩ := e
    simp only [List.take_succ_cons, RVs]; exact ⟨v, r.take k, rfl, e2, RVs.take k e3⟩
theorem RVs.vals : ∀ (l : List Value), RVs σ (l.map .val) l
  | [] => by simp [RVs]
  | v :: l => by simp only [List.map_cons, RVs]; exact ⟨v, l, rfl, by simp [RV], RVs.vals l⟩
theorem RVs.map {α : Type} (f : α → MV) (g : α → Value) (l : List α) (h : ∀ x ∈ l, RV σ (f x) (g x)) : RVs σ (l.map f) (l.map g) := by
  induction l with
  | nil => simp [RVs]
  | cons a l ih =>
    simp only [List.map_cons, RVs]
    exact ⟨_, _, rfl, h a List.mem_cons_self, ih (fun x hx => h x (List.mem_cons_of_mem _ hx))⟩
theorem RVs.vals_inv : ∀ {l : List Value} {us : List Value}, RVs σ (l.map .val) us → us = l
  | [], us, e => by simpa [RVs] using e
  | v :: l, us, e => by
    simp only [List.map_cons, RVs] at e; obtain ⟨u, r, rfl, e2, e3⟩ := e
    simp only [RV] at e2
    rw [e2, RVs.vals_inv e3]
end lists

/-- A value's cells. -/
def MV.cells : MV → List MV
  | .agg l => l
  | .val (.agg cs) => cs.toList.map .val
  | v => [v]
theorem RV.cells {σ : Sg} {x : MV} {u : Value} (h : RV σ x u) : RVs σ x.cells u.cells.toList := by
  cases x with
  | val v =>
    simp only [RV] at h; subst h
    cases u <;> simp [MV.cells, Value.cells, RVs, RV, RVs.vals]
  | agg l => simp only [RV] at h; obtain ⟨xs, h1, rfl⟩ := h; simpa [MV.cells, Value.cells] using h1
  | ptr b o => have h' := h; simp only [RV] at h'; obtain ⟨g, h1, rfl⟩ := h'; simp [MV.cells, Value.cells, RVs, h]
  | sl b o n c => have h' := h; simp only [RV] at h'; obtain ⟨g, h1, rfl⟩ := h'; simp [MV.cells, Value.cells, RVs, h]
  | gs b o n s => have h' := h; simp only [RV] at h'; obtain ⟨g, c, h1, rfl, _⟩ := h'; simp [MV.cells, Value.cells, RVs, h]
  | fn f x y => have h' := h; simp only [RV] at h'; obtain ⟨_, _, _, _, rfl⟩ := h'; simp [MV.cells, Value.cells, RVs, h]
  | tup l => have h' := h; simp only [RV] at h'; obtain ⟨_, _, rfl⟩ := h'; simp [MV.cells, Value.cells, RVs, h]

/-- What may stand in one cell. -/
def MV.atom : MV → Bool
  | .agg _ | .tup _ | .val (.agg _) | .val (.tuple _) => false
  | _ => true
def Value.atom : Value → Bool
  | .agg _ | .tuple _ => false
  | _ => true
theorem RV.atom {σ : Sg} {x : MV} {u : Value} (h : RV σ x u) (ha : x.atom = true) : Value.atom u = true := by
  cases x with
  | val v => simp only [RV] at h; subst h; cases u <;> simp_all [MV.atom, Value.atom]
  | agg l => simp [MV.atom] at ha
  | tup l => simp [MV.atom] at ha
  | ptr b o => simp only [RV] at h; obtain ⟨_, _, rfl⟩ := h; rfl
  | sl b o n c => simp only [RV] at h; obtain ⟨_, _, rfl⟩ := h; rfl
  | gs b o n s => simp only [RV] at h; obtain ⟨_, _, _, rfl, _⟩ := h; rfl
  | fn f x y => simp only [RV] at h; obtain ⟨_, _, _, _, rfl⟩ := h; rfl

/-- What an operand is. -/
def ev (tm : List MV) : Operand → MV
  | .tmp t => tm.getD t (.val undef)
  | .const v => .val v
  | .global g => .val (.pointer (some ⟨g, 0, none⟩))
  | .func f => .fn f [] []
theorem ev_ok {σ : Sg} {tm : List MV} {a : Act} (h : RVs σ tm a.tmps.toList) (x : Operand) : RV σ (ev tm x) (a.eval x) := by
  cases x with
  | tmp t =>
    show RV σ (tm.getD t (.val undef)) (a.tmps.getD t undef)
    have e : a.tmps.getD t undef = (a.tmps.toList[t]?).getD undef := by simp
    rw [e, List.getD_eq_getElem?_getD]
    cases hk : tm[t]? with
    | none => rw [RVs.none_get t h hk]; simp [RV]
    | some y => obtain ⟨u, h1, h2⟩ := RVs.get t h hk; rw [h1]; simpa using h2
  | const v => simp [ev, RV, Act.eval]
  | global g => simp [ev, RV, Act.eval]
  | func f => simp only [ev, RV, Act.eval]; exact ⟨[], [], by simp [RVs], by simp [RVs], rfl⟩
/-- What the own memory is in the world. -/
structure RM (base : Nat) (w0 : World) (σ : Sg) (m : Mem) (w : World) : Prop where
  blk : ∀ b k, m[b]? = some (some k) → ∃ g cs rest, σ b = some g ∧ w.heap[g]? = some (.cells (cs ++ rest).toArray k.ty (0, 0)) ∧ RVs σ k.cells cs ∧ (cs ++ rest).length = σ.κ b
  inj : ∀ b c g k l, m[b]? = some (some k) → m[c]? = some (some l) → k.cells ≠ [] → l.cells ≠ [] → σ b = some g → σ c = some g → b = c
  dom : ∀ b g, σ b = some g → ∃ k, m[b]? = some (some k)
  lo : ∀ b g, σ b = some g → base ≤ g
  bel : Below base w0 w
  base : base ≤ w.heap.size
structure Rel (base : Nat) (w0 : World) (σ : Sg) (tm : List MV) (m : Mem) (a : Act) (w : World) : Prop where
  df : a.defers = []
  tm : RVs σ tm a.tmps.toList
  mem : RM base w0 σ m w
def put (tm : List MV) : Option Nat → MV → List MV
  | some d, v => tm.set d v
  | none, _ => tm
theorem put_ok {σ : Sg} {tm : List MV} {a : Act} (h : RVs σ tm a.tmps.toList) (dst : Option Nat) {x : MV} {u : Value} (hx : RV σ x u) : RVs σ (put tm dst x) (a.put dst u).tmps.toList := by
  cases dst with
  | none => exact h
  | some d => simp only [put, Act.put, Array.toList_setIfInBounds]; exact RVs.set d h hx
end Go.Proofs.Ytokdpnpldoaepaa.X
