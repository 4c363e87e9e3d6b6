/- What is proved: one operation of a region, and a region in the text's order, carried out on the small memory, do what the machine does. Conditions: none but those in each statement. -/
import Derived.Test.YtppklhfiajjhmaaZRasterShiftsY3
namespace Go.Proofs.Ytppklhfiajjhmaa.Y
open Go Go.RowKit
set_option linter.unusedVariables false
set_option linter.unusedSimpArgs false

abbrev KV := MV → Option Out
abbrev KM := MV → Mem → Option Out
abbrev KS := List MV → Mem → Option Out
/-- What is known of the functions that are called: those that read what they are given and write nothing; others. -/
structure Ctx where
  q : Nat → Option (List MV → (Nat → Option Blk) → KV → Option Out)
  i : Nat → Option (List MV → Mem → KM → Option Out)
  n : Nat → Option (List MV → (Nat → Option Blk) → (Blk → (Nat → MV) → Option Out) → Option Out)
  env : Bs → World → (Nat → Value) → Prop
def rdM (m : Mem) (b : Nat) : Option Blk := (m[b]?).join
mutual
def refs : MV → List Nat
  | .val _ => []
  | .ptr b _ => [b]
  | .sl b _ _ _ => [b]
  | .gs b _ _ _ => [b]
  | .fn _ x y => refsL x ++ refsL y
  | .agg l => refsL l
  | .tup l => refsL l
  | .pe b _ _ _ => [b]
  | .va b _ _ _ => [b]
  | .xs _ _ => []
  | .es => []
  | .any => []
def refsL : List MV → List Nat
  | [] => []
  | x :: l => refs x ++ refsL l
end
def newM : Option (Nat × Nat) → Nat → MV
  | none, b => .ptr b 0
  | some (n, c), b => .sl b 0 n c
def Reads1 (σ : Sg) (w : World) (b : Nat) (k : Blk) : Prop := ∀ (g : Nat), σ b = some g → ∃ (pre cs rest : List Value), w.heap[g]? = some (.cells (pre ++ (cs ++ rest)).toArray k.ty (0, 0)) ∧ RVs σ k.cells cs ∧ (cs ++ rest).length = σ.κ b ∧ pre.length = σ.off b ∧ (k.ro = false → pre = [])
/-- A call that reads what it is given, and turns nothing that was there. -/
def QOk (P : Program) (X : Bs → World → (Nat → Value) → Prop) (f : Nat) (G : List MV → (Nat → Option Blk) → KV → Option Out) : Prop :=
  ∀ args rd k r, G args rd k = some r → ∃ v, k v = some r ∧ ∀ base w0 σ us w, X base w0 σ.x → Bel base w0 w → base.n ≤ w.heap.size → RVs σ args us → (∀ b k, b ∈ refsL args → rd b = some k → Reads1 σ w b k) →
    Calls P f us.toArray w fun e w' => ∃ u, e = .returned u ∧ RV σ v u ∧ Below w.heap.size w w'
/-- What is new behind a call: one block of plain values (or none), and a value. -/
def Fresh (σ : Sg) (w w' : World) (blk : Blk) (vf : Nat → MV) (u : Value) : Prop :=
  (∃ (g : Nat) (cs rest : List Value), w.heap.size ≤ g ∧ w'.heap[g]? = some (.cells (cs ++ rest).toArray blk.ty (0, 0)) ∧ RVs σ blk.cells cs ∧
    ∀ τ b, Ext σ τ → τ b = some g → τ.κ b = (cs ++ rest).length → τ.off b = 0 → RV τ (vf b) u) ∨
  (∀ τ b, Ext σ τ → RV τ (vf b) u)
/-- A call that reads what it is given, turns nothing that was there, and makes one block. -/
def NOk (P : Program) (X : Bs → World → (Nat → Value) → Prop) (f : Nat) (G : List MV → (Nat → Option Blk) → (Blk → (Nat → MV) → Option Out) → Option Out) : Prop :=
  ∀ args rd k r, G args rd k = some r → ∃ blk vf, k blk vf = some r ∧ blk.ro = false ∧ ∀ base w0 σ us w, X base w0 σ.x → Bel base w0 w → base.n ≤ w.heap.size → RVs σ args us → (∀ b k, b ∈ refsL args → rd b = some k → Reads1 σ w b k) →
    Calls P f us.toArray w fun e w' => ∃ u, e = .returned u ∧ Fresh σ w w' blk vf u ∧ Below w.heap.size w w'
def IOk (P : Program) (X : Bs → World → (Nat → Value) → Prop) (f : Nat) (G : List MV → Mem → KM → Option Out) : Prop :=
  ∀ args m k r, G args m k = some r → ∀ base w0 σ us w, X base w0 σ.x → RVs σ args us → RM base w0 σ m w →
    Calls P f us.toArray w fun e w' => ∃ v m' σ' u, k v m' = some r ∧ e = .returned u ∧ Ext σ σ' ∧ RV σ' v u ∧ RM base w0 σ' m' w'
structure COk (P : Program) (C : Ctx) : Prop where
  q : ∀ f G, C.q f = some G → QOk P C.env f G ∧ FnOk P f
  n : ∀ f G, C.n f = some G → NOk P C.env f G ∧ FnOk P f
  i : ∀ f G, C.i f = some G → IOk P C.env f G ∧ FnOk P f
/-- Lists and values laid out, for the kernel's sake: each is what it was. -/
def fl {α β : Type} : List α → (List α → β) → β
  | [], k => k []
  | x :: l, k => fl l (fun l => k (x :: l))
theorem fl_eq {α β : Type} : ∀ (l : List α) (k : List α → β), fl l k = k l
  | [], k => rfl
  | x :: l, k => by rw [fl, fl_eq l]
def fv {β : Type} (v : MV) (k : MV → β) : β :=
  match v with
  | .val (.int a n) => k (.val (.int a n))
  | .val (.bool b) => k (.val (.bool b))
  | .val x => k (.val x)
  | .ptr b o => k (.ptr b o)
  | .sl b o n c => k (.sl b o n c)
  | .gs b o n s => k (.gs b o n s)
  | .fn f x y => k (.fn f x y)
  | .agg l => fl l (fun l => k (.agg l))
  | .tup l => fl l (fun l => k (.tup l))
  | .pe b s i o => k (.pe b s i o)
  | .va b i n s => k (.va b i n s)
  | .xs x n => k (.xs x n)
  | .es => k .es
  | .any => k .any
theorem fv_eq {β : Type} (v : MV) (k : MV → β) : fv v k = k v := by
  unfold fv
  split <;> first | rfl | rw [fl_eq]
def fb {β : Type} (b : Blk) (k : Blk → β) : β :=
  match b with
  | ⟨.lst l, ty⟩ => fl l (fun l => k ⟨.lst l, ty⟩)
  | ⟨.recs sh l, ty⟩ => k ⟨.recs sh l, ty⟩
  | ⟨.rlst l, ty⟩ => k ⟨.rlst l, ty⟩
  | ⟨.rrecs sh l, ty⟩ => k ⟨.rrecs sh l, ty⟩
theorem fb_eq {β : Type} (b : Blk) (k : Blk → β) : fb b k = k b := by
  unfold fb
  split <;> first | rfl | rw [fl_eq]
/-- An old block is left alone from here on. -/
def kill (m : Mem) : Option Nat → Mem
  | none => m
  | some b => match m[b]? with
    | some (some k) => bif k.ro then m else m.set b (some ⟨.lst [], k.ty⟩)
    | _ => m
def xact (C : Ctx) (o : Oper) (tm : List MV) (m : Mem) (k : KS) (res : Option Res) : Option Out :=
  match res with
  | some (.val v) => fv v (fun v => fl (put tm o.dst v) (fun tm => k tm m))
  | some (.new cells ty row) => fl cells (fun cells => fl (put tm o.dst (newM row m.length)) (fun tm => fl (m ++ [some ⟨.lst cells, ty⟩]) (fun m => k tm m)))
  | some (.put b off vs blk) => fb blk (fun blk => fl (put tm o.dst (.val undef)) (fun tm => fl (m.set b (some blk)) (fun m => k tm m)))
  | some (.call f args) => match C.q f with
    | some G => G args (rdM m) (fun v => fv v (fun v => fl (put tm o.dst v) (fun tm => k tm m)))
    | none => match C.n f with
      | some G => G args (rdM m) (fun blk vf => fb blk (fun blk => fv (vf m.length) (fun v => fl (put tm o.dst v) (fun tm => fl (m ++ [some blk]) (fun m => k tm m)))))
      | none => match C.i f with
        | some G => G args m (fun v m' => fv v (fun v => fl (put tm o.dst v) (fun tm => k tm m')))
        | none => none
  | some (.app old cells ty n sz) => fl cells (fun cells => fl (put tm o.dst (.gs m.length 0 n sz)) (fun tm => fl (kill m old ++ [some ⟨.lst cells, ty⟩]) (fun m => k tm m)))
  | none => none
def xdo (P : Program) (E : Eqs) (C : Ctx) (o : Oper) (tm : List MV) (m : Mem) (k : KS) : Option Out :=
  match xopC P E o.op (ev tm) (rdM m) with
  | (c, q) => bif c then xact C o tm m k q else none
/-- One of two ways: x if b is what is wanted. -/
def way (want b : Bool) (x y : Option Out) : Option Out := bif want then (bif b then x else y) else (bif b then y else x)
theorem way_eq (want b : Bool) (x y : Option Out) : way want b x y = bif b == want then x else y := by cases want <;> cases b <;> rfl
def xone (P : Program) (E : Eqs) (C : Ctx) (ops : Array Oper) (o : Oper) (tm : List MV) (m : Mem) (k : KS) : Option Out :=
  match o.guard with
  | none => xdo P E C o tm m k
  | some (j, want) => match (ops[j]?).bind (·.dst) with
    | some d => match tm[d]? with
      | some (.val (.bool b)) => way want b (xdo P E C o (tm.set d (.val (.bool want))) m k) (k (put (tm.set d (.val (.bool (!want)))) o.dst (.val undef)) m)
      | some (.val (.tuple _)) => k (put tm o.dst (.val undef)) m
      | _ => none
    | none => none
def xops (P : Program) (E : Eqs) (C : Ctx) (ops : Array Oper) : List Oper → List MV → Mem → KS → Option Out
  | [], tm, m, k => k tm m
  | o :: rest, tm, m, k => xone P E C ops o tm m (fun tm m => xops P E C ops rest tm m k)
section
variable {P : Program} {E : Eqs} {C : Ctx} {base : Bs} {w0 : World}
theorem RM.reads {σ : Sg} {m : Mem} {w : World} (h : RM base w0 σ m w) : Reads σ w (rdM m) := by
  intro b k g hb hg
  unfold rdM at hb
  cases hm : m[b]? with
  | none => simp [hm] at hb
  | some x =>
    cases x with
    | none => simp [hm] at hb
    | some k' =>
      simp [hm] at hb
      subst hb
      exact h.blk b k' g hm hg
theorem RM.lt {σ : Sg} {m : Mem} {w : World} (h : RM base w0 σ m w) {b g : Nat} (hb : σ b = some g) : g < w.heap.size := by
  obtain ⟨k, hk⟩ := h.dom b g hb
  obtain ⟨pre, cs, rest, h2, _⟩ := h.blk b k g hk hb
  exact (Array.getElem?_eq_some_iff.1 h2).1
/-- The own blocks begin where the machine's do. -/
theorem RM.own {σ : Sg} {m : Mem} {w : World} (h : RM base w0 σ m w) {b : Nat} {k : Blk} (hk : m[b]? = some (some k)) (hro : k.ro = false) {g : Nat} (hg : σ b = some g) : σ.off b = 0 ∧ ∃ cs rest : List Value, w.heap[g]? = some (.cells (cs ++ rest).toArray k.ty (0, 0)) ∧ RVs σ k.cells cs ∧ (cs ++ rest).length = σ.κ b := by
  obtain ⟨pre, cs, rest, h1, h2, h3, h4, h5⟩ := h.blk b k g hk hg
  have := h5 hro
  subst this
  exact ⟨by simpa using h4.symm, cs, rest, by simpa using h1, h2, h3⟩
/-- A call that turns nothing that was there. -/
theorem RM.call {σ : Sg} {m : Mem} {w w' : World} (h : RM base w0 σ m w) (hb : Below w.heap.size w w') : RM base w0 σ m w' := by
  refine ⟨fun b k g hk h1 => ?_, h.inj, h.dom, h.lo, h.hi, ?_, Nat.le_trans h.base hb.size⟩
  · obtain ⟨pre, cs, rest, h2, h3⟩ := h.blk b k g hk h1
    exact ⟨pre, cs, rest, by rw [hb.block g (Array.getElem?_eq_some_iff.1 h2).1, h2], h3⟩
  · exact h.bel.below hb h.base
theorem RM.drew {σ : Sg} {m : Mem} {w : World} (h : RM base w0 σ m w) : RM base w0 σ m { w with drawn := w.drawn + 1 } :=
  ⟨h.blk, h.inj, h.dom, h.lo, h.hi, ⟨h.bel.os, h.bel.tape, h.bel.output, h.bel.size, h.bel.block⟩, h.base⟩
def extend (σ : Sg) (b g n : Nat) : Sg := ⟨fun c => if c = b then some g else σ c, fun c => if c = b then n else σ.κ c, σ.x, fun c => if c = b then 0 else σ.off c⟩
theorem extend_ext {σ : Sg} {b g n : Nat} (h : σ b = none) : Ext σ (extend σ b g n) := by
  refine ⟨rfl, ?_⟩
  intro c x hc
  have : c ≠ b := by intro e; subst e; rw [h] at hc; cases hc
  refine ⟨?_, ?_, ?_⟩
  · show (if c = b then some g else σ c) = some x
    rw [if_neg this]; exact hc
  · show (if c = b then n else σ.κ c) = σ.κ c
    rw [if_neg this]
  · show (if c = b then 0 else σ.off c) = σ.off c
    rw [if_neg this]
theorem extend_off (σ : Sg) (b g n : Nat) : (extend σ b g n).off b = 0 := by show (if b = b then 0 else σ.off b) = 0; simp
theorem extend_at (σ : Sg) (b g n : Nat) : extend σ b g n b = some g := by show (if b = b then some g else σ b) = some g; simp
theorem extend_cap (σ : Sg) (b g n : Nat) : (extend σ b g n).κ b = n := by show (if b = b then n else σ.κ b) = n; simp
theorem extend_ne {σ : Sg} {b g n c : Nat} (h : c ≠ b) : extend σ b g n c = σ c := by show (if c = b then some g else σ c) = σ c; simp [h]
/-- A new block, at a place that holds none. -/
theorem RM.newAt {σ : Sg} {m m' : Mem} {w : World} (h : RM base w0 σ m w) {b : Nat} {blk : Blk} {us rest : List Value} (hu : RVs σ blk.cells us)
    (hro : blk.ro = false) (hb : ∀ k, m[b]? ≠ some (some k)) (hm : m'[b]? = some (some blk)) (ho : ∀ c, c ≠ b → ∀ k, m'[c]? = some (some k) ↔ m[c]? = some (some k)) :
    σ b = none ∧ RM base w0 (extend σ b w.heap.size (us ++ rest).length) m' (w.alloc (.cells (us ++ rest).toArray blk.ty (0, 0))) := by
  have hn : σ b = none := by
    cases hs : σ b with
    | none => rfl
    | some g => obtain ⟨k, hk⟩ := h.dom b g hs; exact absurd hk (hb k)
  have hx := extend_ext (g := w.heap.size) (n := (us ++ rest).length) hn
  have he := extend_at σ b w.heap.size (us ++ rest).length
  have hne : ∀ c, c ≠ b → extend σ b w.heap.size (us ++ rest).length c = σ c := fun c hc => extend_ne hc
  refine ⟨hn, ⟨fun c k x hk hcx => ?_, fun c d g kc kd hkc hkd r1 r2 h1 h2 h3 h4 => ?_, fun c g hc => ?_, fun c g k hk hc hr => ?_, fun c g k hk hc hr => ?_, ?_, ?_⟩⟩
  · by_cases e : c = b
    · subst e
      rw [hm] at hk
      simp only [Option.some.injEq] at hk
      subst hk
      rw [he] at hcx
      injection hcx with hcx
      subst hcx
      refine ⟨[], us, rest, ?_, RVs.ext hx _ _ hu, (extend_cap σ c _ _).symm, (extend_off σ c _ _).symm, fun _ => rfl⟩
      show (w.heap.push _)[w.heap.size]? = _
      simp
    · rw [hne c e] at hcx
      obtain ⟨pre, cs, rs, h2, h3, h4, h5, h6⟩ := h.blk c k x ((ho c e k).1 hk) hcx
      refine ⟨pre, cs, rs, ?_, RVs.ext hx _ _ h3, by rw [(hx.to _ _ hcx).2.1, h4], by rw [(hx.to _ _ hcx).2.2, h5], h6⟩
      rw [Below.heap_alloc _ _ _ (Array.getElem?_eq_some_iff.1 h2).1, h2]
  · by_cases e1 : c = b
    · by_cases e2 : d = b
      · rw [e1, e2]
      · subst e1
        rw [he] at h3
        rw [hne d e2] at h4
        injection h3 with h3
        have := h.lt h4
        omega
    · by_cases e2 : d = b
      · subst e2
        rw [he] at h4
        rw [hne c e1] at h3
        injection h4 with h4
        have := h.lt h3
        omega
      · rw [hne c e1] at h3
        rw [hne d e2] at h4
        exact h.inj c d g kc kd ((ho c e1 kc).1 hkc) ((ho d e2 kd).1 hkd) r1 r2 h1 h2 h3 h4
  · by_cases e : c = b
    · subst e; exact ⟨_, hm⟩
    · rw [hne c e] at hc
      obtain ⟨k, hk⟩ := h.dom c g hc
      exact ⟨k, (ho c e k).2 hk⟩
  · by_cases e : c = b
    · subst e
      rw [he] at hc
      injection hc with hc
      subst hc
      exact .inl h.base
    · rw [hne c e] at hc
      exact h.lo c g k ((ho c e k).1 hk) hc hr
  · by_cases e : c = b
    · subst e
      rw [hm] at hk
      simp only [Option.some.injEq] at hk
      subst hk
      rw [hro] at hr
      cases hr
    · rw [hne c e] at hc
      exact h.hi c g k ((ho c e k).1 hk) hc hr
  · exact h.bel.below (Below.alloc (Below.refl _ _) (Nat.le_refl _) _) h.base
  · have := h.base
    simp
    omega
/-- A new block behind a call. -/
theorem RM.newCall {σ : Sg} {m m' : Mem} {w w' : World} (h : RM base w0 σ m w) (hb' : Below w.heap.size w w') {b g : Nat} {blk : Blk} {us rest : List Value} (hu : RVs σ blk.cells us)
    (hg : w.heap.size ≤ g) (hw : w'.heap[g]? = some (.cells (us ++ rest).toArray blk.ty (0, 0))) (hro : blk.ro = false) (hb : ∀ k, m[b]? ≠ some (some k)) (hm : m'[b]? = some (some blk)) (ho : ∀ c, c ≠ b → ∀ k, m'[c]? = some (some k) ↔ m[c]? = some (some k)) :
    Ext σ (extend σ b g (us ++ rest).length) ∧ RM base w0 (extend σ b g (us ++ rest).length) m' w' := by
  have hn : σ b = none := by
    cases hs : σ b with
    | none => rfl
    | some g => obtain ⟨k, hk⟩ := h.dom b g hs; exact absurd hk (hb k)
  have hx := extend_ext (g := g) (n := (us ++ rest).length) hn
  have he := extend_at σ b g (us ++ rest).length
  have hne : ∀ c, c ≠ b → extend σ b g (us ++ rest).length c = σ c := fun c hc => extend_ne hc
  have h' := h.call hb'
  refine ⟨hx, ⟨fun c k x hk hcx => ?_, fun c d y kc kd hkc hkd r1 r2 h1 h2 h3 h4 => ?_, fun c y hc => ?_, fun c y k hk hc hr => ?_, fun c y k hk hc hr => ?_, h'.bel, h'.base⟩⟩
  · by_cases e : c = b
    · subst e
      rw [hm] at hk
      simp only [Option.some.injEq] at hk
      subst hk
      rw [he] at hcx
      injection hcx with hcx
      subst hcx
      exact ⟨[], us, rest, hw, RVs.ext hx _ _ hu, (extend_cap σ c _ _).symm, (extend_off σ c _ _).symm, fun _ => rfl⟩
    · rw [hne c e] at hcx
      obtain ⟨pre, cs, rs, h2, h3, h4, h5, h6⟩ := h'.blk c k x ((ho c e k).1 hk) hcx
      exact ⟨pre, cs, rs, h2, RVs.ext hx _ _ h3, by rw [(hx.to _ _ hcx).2.1, h4], by rw [(hx.to _ _ hcx).2.2, h5], h6⟩
  · by_cases e1 : c = b
    · by_cases e2 : d = b
      · rw [e1, e2]
      · subst e1
        rw [he] at h3
        rw [hne d e2] at h4
        injection h3 with h3
        have := h.lt h4
        omega
    · by_cases e2 : d = b
      · subst e2
        rw [he] at h4
        rw [hne c e1] at h3
        injection h4 with h4
        have := h.lt h3
        omega
      · rw [hne c e1] at h3
        rw [hne d e2] at h4
        exact h.inj c d y kc kd ((ho c e1 kc).1 hkc) ((ho d e2 kd).1 hkd) r1 r2 h1 h2 h3 h4
  · by_cases e : c = b
    · subst e; exact ⟨_, hm⟩
    · rw [hne c e] at hc
      obtain ⟨k, hk⟩ := h.dom c y hc
      exact ⟨k, (ho c e k).2 hk⟩
  · by_cases e : c = b
    · subst e
      rw [he] at hc
      injection hc with hc
      subst hc
      exact .inl (Nat.le_trans h.base hg)
    · rw [hne c e] at hc
      exact h.lo c y k ((ho c e k).1 hk) hc hr
  · by_cases e : c = b
    · subst e
      rw [hm] at hk
      simp only [Option.some.injEq] at hk
      subst hk
      rw [hro] at hr
      cases hr
    · rw [hne c e] at hc
      exact h.hi c y k ((ho c e k).1 hk) hc hr
/-- A block that lies nowhere. -/
theorem RM.newNone {σ : Sg} {m m' : Mem} {w : World} (h : RM base w0 σ m w) {b : Nat} {blk : Blk} (hb : ∀ k, m[b]? ≠ some (some k)) (hm : m'[b]? = some (some blk)) (ho : ∀ c, c ≠ b → ∀ k, m'[c]? = some (some k) ↔ m[c]? = some (some k)) :
    RM base w0 σ m' w := by
  have hn : σ b = none := by
    cases hs : σ b with
    | none => rfl
    | some g => obtain ⟨k, hk⟩ := h.dom b g hs; exact absurd hk (hb k)
  have ne : ∀ c g, σ c = some g → c ≠ b := by intro c g hc e; subst e; rw [hn] at hc; cases hc
  exact ⟨fun c k x hk hcx => h.blk c k x ((ho c (ne c x hcx) k).1 hk) hcx, fun c d y kc kd hkc hkd r1 r2 h1 h2 h3 h4 => h.inj c d y kc kd ((ho c (ne c y h3) kc).1 hkc) ((ho d (ne d y h4) kd).1 hkd) r1 r2 h1 h2 h3 h4,
    fun c y hc => by obtain ⟨k, hk⟩ := h.dom c y hc; exact ⟨k, (ho c (ne c y hc) k).2 hk⟩, fun c y k hk hc hr => h.lo c y k ((ho c (ne c y hc) k).1 hk) hc hr, fun c y k hk hc hr => h.hi c y k ((ho c (ne c y hc) k).1 hk) hc hr, h.bel, h.base⟩
/-- What a call makes, taken over. -/
theorem RM.fresh {σ : Sg} {m m' : Mem} {w w' : World} (h : RM base w0 σ m w) (hb' : Below w.heap.size w w') {b : Nat} {blk : Blk} {vf : Nat → MV} {u : Value} (hf : Fresh σ w w' blk vf u) (hro : blk.ro = false)
    (hb : ∀ k, m[b]? ≠ some (some k)) (hm : m'[b]? = some (some blk)) (ho : ∀ c, c ≠ b → ∀ k, m'[c]? = some (some k) ↔ m[c]? = some (some k)) :
    ∃ τ, Ext σ τ ∧ RV τ (vf b) u ∧ RM base w0 τ m' w' := by
  rcases hf with ⟨g, cs, rest, h1, h2, h3, h4⟩ | h4
  · obtain ⟨hx, hr⟩ := h.newCall hb' h3 h1 h2 hro hb hm ho
    exact ⟨_, hx, h4 _ b hx (extend_at _ _ _ _) (extend_cap _ _ _ _) (extend_off _ _ _ _), hr⟩
  · exact ⟨σ, Ext.refl σ, h4 σ b (Ext.refl σ), (h.call hb').newNone hb hm ho⟩
theorem newV_ok {σ : Sg} {b g n : Nat} (row : Option (Nat × Nat)) : RV (extend σ b g n) (newM row b) (newV row g) := by
  have ho := extend_off σ b g n
  cases row with
  | none => simp only [newM, newV, RV]; exact ⟨g, extend_at σ b g n, by rw [ho]⟩
  | some p => obtain ⟨n', c⟩ := p; simp only [newM, newV, RV]; exact ⟨g, extend_at σ b g n, by rw [ho]⟩
/-- A store. -/
theorem RM.put {σ : Sg} {m m' : Mem} {w : World} (h : RM base w0 σ m w) {b off g t : Nat} {blk : Blk} {vs : List MV} {cs us : List Value}
    (hb : m[b]? = some (some blk)) (hg : σ b = some g) (hc : w.heap[g]? = some (.cells cs.toArray t (0, 0))) (hu : RVs σ vs us) (hfit : off + vs.length ≤ blk.cells.length) {blk' : Blk}
    (hm : m'[b]? = some (some blk')) (hkc : blk'.cells = blk.cells.take off ++ vs ++ blk.cells.drop (off + vs.length)) (hkt : blk'.ty = blk.ty) (hro : blk.ro = false) (hro' : blk'.ro = false) (ho : ∀ c, c ≠ b → ∀ k, m'[c]? = some (some k) ↔ m[c]? = some (some k)) :
    RM base w0 σ m' (w.setRow g (cs.take off ++ us ++ cs.drop (off + us.length)).toArray) := by
  obtain ⟨hoff, cs', rs, h2, h3, h4⟩ := h.own hb hro hg
  rw [hc] at h2
  simp only [Option.some.injEq, Obj.cells.injEq, and_true] at h2
  obtain ⟨e1, e2⟩ := h2
  have e3 : cs = cs' ++ rs := by have := congrArg Array.toList e1; simpa using this
  subst e3; subst e2
  have hl := hu.length
  have hl3 := h3.length
  have eT : (cs' ++ rs).take off = cs'.take off := List.take_append_of_le_length (by omega)
  have eD : (cs' ++ rs).drop (off + us.length) = cs'.drop (off + us.length) ++ rs := List.drop_append_of_le_length (by omega)
  have erow : (cs' ++ rs).take off ++ us ++ (cs' ++ rs).drop (off + us.length) = (cs'.take off ++ us ++ cs'.drop (off + us.length)) ++ rs := by rw [eT, eD]; simp
  have hlen : ((cs'.take off ++ us ++ cs'.drop (off + us.length)) ++ rs).length = (cs' ++ rs).length := by simp; omega
  rw [erow]
  have hcell : blk'.cells.length = blk.cells.length := by rw [hkc]; simp; omega
  have hnil : blk.cells = [] → (cs'.take off ++ us ++ cs'.drop (off + us.length)) ++ rs = cs' ++ rs := by
    intro e
    rw [e] at hfit hl3
    simp at hfit hl3
    have : us = [] := List.eq_nil_of_length_eq_zero (by rw [hl, hfit.2]; rfl)
    subst this
    simp [hl3]
  refine ⟨fun c k gx hk hgx => ?_, fun c d x kc kd hkc hkd r1 r2 n1 n2 s1 s2 => ?_, fun c x hx => ?_, fun c x k hk hc hr => ?_, fun c x k hk hc hr => ?_, ?_, ?_⟩
  · by_cases e : c = b
    · subst e
      rw [hm] at hk
      simp only [Option.some.injEq] at hk
      subst hk
      rw [hg] at hgx
      injection hgx with hgx
      subst hgx
      refine ⟨[], _, rs, by rw [hkt]; exact setRow_heap w g _ _ _ _ hc, ?_, by rw [hlen, h4], by rw [hoff]; rfl, fun _ => rfl⟩
      rw [hl, hkc]
      exact ((h3.take off).append hu).append (h3.drop _)
    · have hk0 := (ho c e k).1 hk
      obtain ⟨g2, h5⟩ : ∃ g2, σ c = some g2 := ⟨gx, hgx⟩
      have e9 : gx = g2 := by rw [hgx] at h5; injection h5
      subst e9
      obtain ⟨pre2, cs2, rs2, h6, h7, h8, h9, h10⟩ := h.blk c k gx hk0 h5
      by_cases eg : gx = g
      · subst eg
        rw [hc] at h6
        simp only [Option.some.injEq, Obj.cells.injEq, and_true] at h6
        obtain ⟨f1, f2⟩ := h6
        have f3 : cs' ++ rs = pre2 ++ (cs2 ++ rs2) := by have := congrArg Array.toList f1; simpa using this
        by_cases d1 : blk.cells = []
        · refine ⟨pre2, cs2, rs2, ?_, h7, h8, h9, h10⟩
          rw [setRow_heap w gx _ _ _ _ hc, hnil d1, f3, f2]
        · by_cases d2 : k.cells = []
          · have : cs2 = [] := List.eq_nil_of_length_eq_zero (by rw [h7.length, d2]; rfl)
            subst this
            have hL : ((cs'.take off ++ us ++ cs'.drop (off + us.length)) ++ rs).length = pre2.length + rs2.length := by rw [hlen, f3]; simp
            refine ⟨((cs'.take off ++ us ++ cs'.drop (off + us.length)) ++ rs).take pre2.length, [], ((cs'.take off ++ us ++ cs'.drop (off + us.length)) ++ rs).drop pre2.length, ?_, h7, ?_, ?_, ?_⟩
            · rw [setRow_heap w gx _ _ _ _ hc, List.nil_append, List.take_append_drop, f2]
            · rw [List.nil_append, List.length_drop, hL, ← h8]; simp
            · rw [List.length_take, hL, ← h9]; omega
            · intro hr; rw [h10 hr]; rfl
          · cases hkr : k.ro with
            | false => exact absurd (h.inj c b gx k blk hk0 hb hkr hro d2 d1 h5 hg) e
            | true =>
              have a1 := h.hi c gx k hk0 h5 hkr d2
              have a2 := h.lo b gx blk hb hg hro
              exact absurd a2 a1
      · refine ⟨pre2, cs2, rs2, ?_, h7, h8, h9, h10⟩
        rw [setRow_other w g gx _ eg, h6]
  · have live : ∀ (y : Nat) (ky : Blk), m'[y]? = some (some ky) → ky.ro = false → ky.cells ≠ [] → ∃ k0 : Blk, m[y]? = some (some k0) ∧ k0.ro = false ∧ k0.cells ≠ [] := by
      intro y ky hy ry ny
      by_cases e : y = b
      · subst e
        rw [hm] at hy
        simp only [Option.some.injEq] at hy
        subst hy
        refine ⟨blk, hb, hro, fun e0 => ny ?_⟩
        refine List.eq_nil_of_length_eq_zero ?_
        rw [hcell, e0]; rfl
      · exact ⟨ky, (ho y e ky).1 hy, ry, ny⟩
    obtain ⟨k1, a1, a0, a2⟩ := live c kc hkc r1 n1
    obtain ⟨k2, b1, b0, b2⟩ := live d kd hkd r2 n2
    exact h.inj c d x k1 k2 a1 b1 a0 b0 a2 b2 s1 s2
  · by_cases e : c = b
    · subst e; exact ⟨_, hm⟩
    · obtain ⟨k, hk⟩ := h.dom c x hx
      exact ⟨k, (ho c e k).2 hk⟩
  · by_cases e : c = b
    · subst e
      exact h.lo c x blk hb hc hro
    · exact h.lo c x k ((ho c e k).1 hk) hc hr
  · by_cases e : c = b
    · subst e
      rw [hm] at hk
      simp only [Option.some.injEq] at hk
      subst hk
      rw [hro'] at hr
      cases hr
    · exact h.hi c x k ((ho c e k).1 hk) hc hr
  · have := h.lo b g blk hb hg hro
    exact h.bel.trans ⟨rfl, rfl, rfl, by simp, fun k hk => setRow_other w g k _ (by intro e; subst e; exact hk this)⟩
  · have := h.base
    simpa using this
/-- A block that grows where it lies: what is known of it goes over to a new name. -/
theorem RM.grow {σ : Sg} {m : Mem} {w : World} (h : RM base w0 σ m w) {b g : Nat} {k : Blk} {cells : List MV} {us rest : List Value}
    (hb : m[b]? = some (some k)) (hro : k.ro = false) (hk : k.cells ≠ []) (hg : σ b = some g) (hu : RVs σ cells us) (hc : σ.κ b = (us ++ rest).length) :
    σ m.length = none ∧ RM base w0 (extend σ m.length g (us ++ rest).length) (kill m (some b) ++ [some ⟨.lst cells, k.ty⟩]) (w.setRow g (us ++ rest).toArray) := by
  have hlt : b < m.length := (List.getElem?_eq_some_iff.1 hb).1
  have ek : kill m (some b) = m.set b (some ⟨.lst [], k.ty⟩) := by unfold kill; simp only [hb, hro, cond_false]
  rw [ek]
  have hn : σ m.length = none := by
    cases hs : σ m.length with
    | none => rfl
    | some x => obtain ⟨k', hk'⟩ := h.dom _ _ hs; simp at hk'
  have hx := extend_ext (g := g) (n := (us ++ rest).length) hn
  have he := extend_at σ m.length g (us ++ rest).length
  obtain ⟨hoff, cs0, rs0, a2, a3, a4⟩ := h.own hb hro hg
  -- what stands in the new memory
  have get : ∀ (c : Nat) (kc : Blk), (m.set b (some ⟨.lst [], k.ty⟩) ++ [some ⟨.lst cells, k.ty⟩] : Mem)[c]? = some (some kc) → (c = m.length ∧ kc = ⟨.lst cells, k.ty⟩) ∨ (c = b ∧ kc = ⟨.lst [], k.ty⟩) ∨ (c ≠ b ∧ c ≠ m.length ∧ m[c]? = some (some kc)) := by
    intro c kc hc'
    rcases Nat.lt_trichotomy c m.length with hl | hl | hl
    · rw [List.getElem?_append_left (by simpa using hl)] at hc'
      by_cases e : c = b
      · subst e
        rw [List.getElem?_set_self hlt] at hc'
        simp only [Option.some.injEq] at hc'
        exact .inr (.inl ⟨rfl, hc'.symm⟩)
      · rw [List.getElem?_set_ne (Ne.symm e)] at hc'
        exact .inr (.inr ⟨e, by omega, hc'⟩)
    · subst hl
      rw [List.getElem?_append_right (by simp)] at hc'
      simp only [List.length_set, Nat.sub_self, List.getElem?_cons_zero, Option.some.injEq] at hc'
      exact .inl ⟨rfl, hc'.symm⟩
    · rw [List.getElem?_eq_none (by simp; omega)] at hc'
      cases hc'
  have cne : ∀ c, c ≠ m.length → extend σ m.length g (us ++ rest).length c = σ c := fun c hc => extend_ne hc
  refine ⟨hn, ⟨fun c kc gx hkc hgx => ?_, fun c d x kc kd hkc hkd r1 r2 n1 n2 s1 s2 => ?_, fun c x hc' => ?_, fun c x kc hkc hc' hr => ?_, fun c x kc hkc hc' hr => ?_, ?_, ?_⟩⟩
  · rcases get c kc hkc with ⟨rfl, rfl⟩ | ⟨rfl, rfl⟩ | ⟨e1, e2, hm⟩
    · rw [he] at hgx
      injection hgx with hgx
      subst hgx
      exact ⟨[], us, rest, setRow_heap w g _ _ _ _ a2, RVs.ext hx _ _ hu, (extend_cap σ _ _ _).symm, (extend_off σ _ _ _).symm, fun _ => rfl⟩
    · rw [(hx.to _ _ hg).1] at hgx
      injection hgx with hgx
      subst hgx
      refine ⟨[], [], us ++ rest, setRow_heap w g _ _ _ _ a2, by simp [RVs], ?_, by rw [(hx.to _ _ hg).2.2, hoff]; rfl, fun _ => rfl⟩
      rw [(hx.to _ _ hg).2.1, hc]; rfl
    · obtain ⟨g2, b1⟩ : ∃ g2, σ c = some g2 := ⟨gx, by rw [cne c e2] at hgx; exact hgx⟩
      have e9 : gx = g2 := by rw [cne c e2, b1] at hgx; injection hgx with hgx; exact hgx.symm
      subst e9
      obtain ⟨pre2, cs2, rs2, b2, b3, b4, b5, b6⟩ := h.blk c kc gx hm b1
      by_cases eg : gx = g
      · subst eg
        by_cases d2 : kc.cells = []
        · have : cs2 = [] := List.eq_nil_of_length_eq_zero (by rw [b3.length, d2]; rfl)
          subst this
          rw [a2] at b2
          simp only [Option.some.injEq, Obj.cells.injEq, and_true] at b2
          obtain ⟨f1, f2⟩ := b2
          have f3 : cs0 ++ rs0 = pre2 ++ ([] ++ rs2) := by have := congrArg Array.toList f1; simpa using this
          have hL : (us ++ rest).length = pre2.length + rs2.length := by rw [← hc, ← a4, f3]; simp
          refine ⟨(us ++ rest).take pre2.length, [], (us ++ rest).drop pre2.length, ?_, by rw [d2]; simp [RVs], ?_, ?_, ?_⟩
          · rw [setRow_heap w gx _ _ _ _ a2, List.nil_append, List.take_append_drop, f2]
          · rw [(hx.to _ _ b1).2.1, ← b4, List.nil_append, List.length_drop, hL]; simp
          · rw [(hx.to _ _ b1).2.2, ← b5, List.length_take, hL]; omega
          · intro hr; rw [b6 hr]; rfl
        · cases hkr : kc.ro with
          | false => exact absurd (h.inj c b gx kc k hm hb hkr hro d2 hk b1 hg) e1
          | true =>
            have f1 := h.hi c gx kc hm b1 hkr d2
            have f2 := h.lo b gx k hb hg hro
            exact absurd f2 f1
      · refine ⟨pre2, cs2, rs2, ?_, RVs.ext hx _ _ b3, by rw [(hx.to _ _ b1).2.1, b4], by rw [(hx.to _ _ b1).2.2, b5], b6⟩
        rw [setRow_other w g gx _ eg, b2]
  · rcases get c kc hkc with ⟨rfl, rfl⟩ | ⟨rfl, rfl⟩ | ⟨e1, e2, hm⟩
    · rcases get d kd hkd with ⟨rfl, rfl⟩ | ⟨rfl, rfl⟩ | ⟨f1, f2, hm2⟩
      · rfl
      · exact absurd rfl n2
      · rw [he] at s1
        injection s1 with s1
        rw [cne d f2, ← s1] at s2
        exact absurd (h.inj d b g kd k hm2 hb r2 hro n2 hk s2 hg) f1
    · exact absurd rfl n1
    · rcases get d kd hkd with ⟨rfl, rfl⟩ | ⟨rfl, rfl⟩ | ⟨f1, f2, hm2⟩
      · rw [he] at s2
        injection s2 with s2
        rw [cne c e2, ← s2] at s1
        exact absurd (h.inj c b g kc k hm hb r1 hro n1 hk s1 hg) e1
      · exact absurd rfl n2
      · rw [cne c e2] at s1
        rw [cne d f2] at s2
        exact h.inj c d x kc kd hm hm2 r1 r2 n1 n2 s1 s2
  · by_cases e : c = m.length
    · subst e; exact ⟨⟨.lst cells, k.ty⟩, by rw [List.getElem?_append_right (by simp)]; simp⟩
    · rw [cne c e] at hc'
      obtain ⟨k', hk'⟩ := h.dom c x hc'
      have hcl : c < m.length := (List.getElem?_eq_some_iff.1 hk').1
      rw [List.getElem?_append_left (by simpa using hcl)]
      by_cases e1 : c = b
      · subst e1; exact ⟨_, List.getElem?_set_self hlt⟩
      · exact ⟨k', by rw [List.getElem?_set_ne (Ne.symm e1)]; exact hk'⟩
  · rcases get c kc hkc with ⟨rfl, rfl⟩ | ⟨rfl, rfl⟩ | ⟨e1, e2, hm⟩
    · rw [he] at hc'
      injection hc' with hc'
      subst hc'
      exact h.lo b g k hb hg hro
    · rw [(hx.to _ _ hg).1] at hc'
      injection hc' with hc'
      subst hc'
      exact h.lo c g k hb hg hro
    · rw [cne c e2] at hc'
      exact h.lo c x kc hm hc' hr
  · rcases get c kc hkc with ⟨rfl, rfl⟩ | ⟨rfl, rfl⟩ | ⟨e1, e2, hm⟩
    · cases hr
    · cases hr
    · rw [cne c e2] at hc'
      exact h.hi c x kc hm hc' hr
  · have := h.lo b g k hb hg hro
    exact h.bel.trans ⟨rfl, rfl, rfl, by simp, fun k' hk' => setRow_other w g k' _ (by intro e; subst e; exact hk' this)⟩
  · have := h.base
    simpa using this
theorem app_get {m : Mem} {x : Option Blk} {c : Nat} (hc : c ≠ m.length) (k : Blk) : (m ++ [x])[c]? = some (some k) ↔ m[c]? = some (some k) := by
  rcases Nat.lt_or_ge c m.length with hl | hl
  · rw [List.getElem?_append_left hl]
  · have : m[c]? = none := by simp; omega
    rw [this]
    simp
    intro h9
    rw [List.getElem?_append_right hl] at h9
    cases hq : c - m.length with
    | zero => omega
    | succ q => rw [hq] at h9; simp at h9
theorem RM.kill {σ : Sg} {m : Mem} {w : World} (h : RM base w0 σ m w) (old : Option Nat) : RM base w0 σ (kill m old) w := by
  unfold Y.kill
  split
  · exact h
  · rename_i b
    split
    · rename_i k hb
      cases hro : k.ro with
      | true => exact h
      | false =>
      simp only [cond_false]
      have hlt : b < m.length := (List.getElem?_eq_some_iff.1 hb).1
      have get : ∀ (c : Nat) (kc : Blk), (m.set b (some ⟨.lst [], k.ty⟩) : Mem)[c]? = some (some kc) → (c = b ∧ kc = ⟨.lst [], k.ty⟩) ∨ (c ≠ b ∧ m[c]? = some (some kc)) := by
        intro c kc hc'
        by_cases e : c = b
        · subst e
          rw [List.getElem?_set_self hlt] at hc'
          simp only [Option.some.injEq] at hc'
          exact .inl ⟨rfl, hc'.symm⟩
        · rw [List.getElem?_set_ne (Ne.symm e)] at hc'
          exact .inr ⟨e, hc'⟩
      refine ⟨fun c kc g hkc hg => ?_, fun c d x kc kd hkc hkd r1 r2 n1 n2 s1 s2 => ?_, fun c x hx => ?_, fun c x kc hkc hc hr => ?_, fun c x kc hkc hc hr => ?_, h.bel, h.base⟩
      · rcases get c kc hkc with ⟨rfl, rfl⟩ | ⟨e, hm⟩
        · obtain ⟨hoff, cs, rs, a2, a3, a4⟩ := h.own hb hro hg
          exact ⟨[], [], cs ++ rs, a2, by simp [RVs], a4, by rw [hoff]; rfl, fun _ => rfl⟩
        · exact h.blk c kc g hm hg
      · rcases get c kc hkc with ⟨rfl, rfl⟩ | ⟨e, hm⟩
        · exact absurd rfl n1
        · rcases get d kd hkd with ⟨rfl, rfl⟩ | ⟨f, hm2⟩
          · exact absurd rfl n2
          · exact h.inj c d x kc kd hm hm2 r1 r2 n1 n2 s1 s2
      · obtain ⟨k', hk'⟩ := h.dom c x hx
        by_cases e1 : c = b
        · subst e1; exact ⟨_, List.getElem?_set_self hlt⟩
        · exact ⟨k', by rw [List.getElem?_set_ne (Ne.symm e1)]; exact hk'⟩
      · rcases get c kc hkc with ⟨rfl, rfl⟩ | ⟨e, hm⟩
        · exact h.lo c x k hb hc hro
        · exact h.lo c x kc hm hc hr
      · rcases get c kc hkc with ⟨rfl, rfl⟩ | ⟨e, hm⟩
        · cases hr
        · exact h.hi c x kc hm hc hr
    · exact h
theorem kill_len (m : Mem) (old : Option Nat) : (kill m old).length = m.length := by
  unfold kill; split
  · rfl
  · split
    · rename_i k _
      cases k.ro <;> simp
    · rfl
theorem Act.put_defers' (a : Act) (d : Option Nat) (v : Value) : (a.put d v).defers = a.defers := by cases d <;> rfl
/-- An operation that is carried out. -/
theorem xdo_ok (hE : EqOk P E) (hC : COk P C) {o : Oper} {tm : List MV} {m : Mem} {k : KS} {r : Out} (h : xdo P E C o tm m k = some r)
    {σ : Sg} {a : Act} {w : World} (hX : C.env base w0 σ.x) (hR : Rel base w0 σ tm m a w) (K : Act → World → Prop) (Q : Exit → Act → World → Prop)
    (hK : ∀ tm' m' σ' a' w', k tm' m' = some r → Ext σ σ' → Rel base w0 σ' tm' m' a' w' → K a' w') : o.wp P a w K Q := by
  have h := xopC_match P E o.op (ev tm) (rdM m) (xact C o tm m k) rfl (by simpa only [xdo] using h)
  unfold xact at h
  simp only [fl_eq, fv_eq, fb_eq] at h
  have hx := fun res (he : xop P E o.op (ev tm) (rdM m) = some res) => xop_ok hE o (ev tm) a (rdM m) w res he (fun x _ => ev_ok hR.tm x) hR.mem.reads
  unfold Oper.wp
  split at h
  · rename_i v he
    obtain ⟨u, h1, h2⟩ := hx _ he
    rw [h1]
    exact hK _ _ σ _ _ h (Ext.refl σ) ⟨by rw [Act.put_defers']; exact hR.df, put_ok hR.tm o.dst h2, hR.mem⟩
  · rename_i cells ty row he
    obtain ⟨us, h1, h2⟩ := hx _ he
    rw [h2]
    obtain ⟨hn, hm⟩ := hR.mem.newAt (b := m.length) (blk := ⟨.lst cells, ty⟩) (m' := m ++ [some ⟨.lst cells, ty⟩]) (rest := []) h1 rfl (by simp) (by simp)
      (fun c hc k => app_get hc k)
    simp only [List.append_nil] at hm
    have hX := extend_ext (g := w.heap.size) (n := us.length) hn
    exact hK _ _ _ _ _ h hX ⟨by rw [Act.put_defers']; exact hR.df, put_ok (RVs.ext hX _ _ hR.tm) o.dst (newV_ok row), hm⟩
  · rename_i b off vs blk' he
    obtain ⟨g, cs, us, t, h1, h2, h3, h4, kb, h5, h6, h7, h8, h9, h10⟩ := hx _ he
    rw [h4]
    have hb : m[b]? = some (some kb) := by
      unfold rdM at h5
      cases hm : m[b]? with
      | none => simp [hm] at h5
      | some x => cases x <;> simp [hm] at h5; rw [h5]
    have hlt : b < m.length := (List.getElem?_eq_some_iff.1 hb).1
    exact hK _ _ σ _ _ h (Ext.refl σ) ⟨by rw [Act.put_defers']; exact hR.df, put_ok hR.tm o.dst (by simp [RV]), hR.mem.put (blk' := blk') hb h1 h2 h3 h6 (by simp [hlt]) h7 h8 h9 h10 (fun c hc k => by rw [List.getElem?_set_ne (Ne.symm hc)])⟩
  · rename_i f args he
    have hcall := hx _ he
    split at h
    · rename_i G hG
      obtain ⟨hq, hf⟩ := hC.q f G hG
      obtain ⟨us, h1, h2⟩ := hcall hf
      obtain ⟨v, h3, h4⟩ := hq _ _ _ _ h
      rw [h2]
      refine Calls.mono (h4 base w0 σ us w hX hR.mem.bel (Nat.le_trans hR.mem.base (Nat.le_refl _)) h1 (fun b k _ hb g hg => hR.mem.reads b k g hb hg)) ?_
      rintro e w' ⟨u, rfl, h5, h6⟩
      exact hK _ _ σ _ _ h3 (Ext.refl σ) ⟨by rw [Act.put_defers']; exact hR.df, put_ok hR.tm o.dst h5, hR.mem.call h6⟩
    · split at h
      · rename_i G hG
        obtain ⟨hi, hf⟩ := hC.n f G hG
        obtain ⟨us, h1, h2⟩ := hcall hf
        obtain ⟨blk, vf, h3, hro, h4⟩ := hi _ _ _ _ h
        rw [h2]
        refine Calls.mono (h4 base w0 σ us w hX hR.mem.bel (Nat.le_trans hR.mem.base (Nat.le_refl _)) h1 (fun b k _ hb g hg => hR.mem.reads b k g hb hg)) ?_
        rintro e w' ⟨u, rfl, h5, h6⟩
        obtain ⟨τ, h7, h8, h9⟩ := hR.mem.fresh (m' := m ++ [some blk]) (b := m.length) h6 h5 hro (by simp) (by simp) (fun c hc k => app_get hc k)
        exact hK _ _ τ _ _ h3 h7 ⟨by rw [Act.put_defers']; exact hR.df, put_ok (RVs.ext h7 _ _ hR.tm) o.dst h8, h9⟩
      · split at h
        · rename_i G hG
          obtain ⟨hi, hf⟩ := hC.i f G hG
          obtain ⟨us, h1, h2⟩ := hcall hf
          rw [h2]
          refine Calls.mono (hi _ _ _ _ h base w0 σ us w hX h1 hR.mem) ?_
          rintro e w' ⟨v, m', σ', u, h3, rfl, h4, h5, h6⟩
          exact hK _ _ σ' _ _ h3 h4 ⟨by rw [Act.put_defers']; exact hR.df, put_ok (RVs.ext h4 _ _ hR.tm) o.dst h5, h6⟩
        · simp at h
  · rename_i old cells ty n sz he
    obtain ⟨us, rest, c, h1, h2, h3, h4⟩ := hx _ he
    rcases h4 with h4 | ⟨b, kb, g, rfl, h5, h5', h6, h7, h8, h9, h10⟩
    · rw [h4]
      have hM := (hR.mem.kill old).drew
      have hl := kill_len m old
      obtain ⟨hn, hm⟩ := hM.newAt (b := m.length) (blk := ⟨.lst cells, ty⟩) (m' := kill m old ++ [some ⟨.lst cells, ty⟩]) (rest := rest) h1 rfl (by rw [← hl]; simp) (by rw [← hl]; simp) (fun c hc k => app_get (by rw [hl]; exact hc) k)
      have hX := extend_ext (g := w.heap.size) (n := (us ++ rest).length) hn
      refine hK _ _ _ _ _ h hX ⟨by rw [Act.put_defers']; exact hR.df, put_ok (RVs.ext hX _ _ hR.tm) o.dst ?_, hm⟩
      simp only [RV]
      exact ⟨_, c, extend_at σ m.length w.heap.size _, by rw [extend_off], h2, by rw [extend_cap]; omega⟩
    · rw [h10]
      have hb : m[b]? = some (some kb) := by
        unfold rdM at h5
        cases hm : m[b]? with
        | none => simp [hm] at h5
        | some x => cases x <;> simp [hm] at h5; rw [h5]
      subst h6
      obtain ⟨hn, hm⟩ := hR.mem.grow hb h5' h7 h8 h1 h9
      have hX := extend_ext (g := g) (n := (us ++ rest).length) hn
      refine hK _ _ _ _ _ h hX ⟨by rw [Act.put_defers']; exact hR.df, put_ok (RVs.ext hX _ _ hR.tm) o.dst ?_, hm⟩
      simp only [RV]
      exact ⟨_, c, extend_at σ m.length g _, by rw [extend_off], h2, by rw [extend_cap]; omega⟩
  · simp at h
theorem xone_ok (hE : EqOk P E) (hC : COk P C) {ops : Array Oper} {o : Oper} {tm : List MV} {m : Mem} {k : KS} {r : Out} (h : xone P E C ops o tm m k = some r)
    {σ : Sg} {a : Act} {w : World} (hX : C.env base w0 σ.x) (hR : Rel base w0 σ tm m a w) (K : Act → World → Prop) (Q : Exit → Act → World → Prop)
    (hK : ∀ tm' m' σ' a' w', k tm' m' = some r → Ext σ σ' → Rel base w0 σ' tm' m' a' w' → K a' w') :
    if Region.wanted o (yielded ops a.tmps) then o.wp P a w K Q else K (a.put o.dst undef) w := by
  unfold xone at h
  split at h
  · rename_i hg
    rw [if_pos (by simp [Region.wanted, hg])]
    exact xdo_ok hE hC h hX hR K Q hK
  · rename_i j want hg
    split at h
    · rename_i d hd
      split at h
      · rename_i b hb
        obtain ⟨u, h1, h2⟩ := RVs.get d hR.tm hb
        have e := h2.val_inv
        subst e
        have hy : yielded ops a.tmps j = some b := by
          unfold yielded
          rw [hd]
          simp only [Option.bind_some]
          have : a.tmps[d]? = some (.bool b) := by simpa using h1
          rw [this]
        have hlt : d < tm.length := (List.getElem?_eq_some_iff.1 hb).1
        have key : ∀ c, b = c → Rel base w0 σ (tm.set d (.val (.bool c))) m a w := by
          intro c hc
          subst hc
          have : tm.set d (.val (.bool b)) = tm := by
            apply List.ext_getElem?
            intro i
            rw [List.getElem?_set]
            split
            · rename_i e; subst e; first | exact hb.symm | (rw [if_pos hlt]; exact hb.symm) | simp_all
            · rfl
          rw [this]
          exact hR
        rw [way_eq] at h
        cases hw : b == want with
        | true =>
          have e : b = want := by simpa using hw
          rw [hw] at h
          simp only [cond_true] at h
          rw [if_pos (by simp [Region.wanted, hg, hy, e])]
          exact xdo_ok hE hC h hX (key want e) K Q hK
        | false =>
          have e : b = !want := by cases b <;> cases want <;> simp_all
          rw [hw] at h
          simp only [cond_false] at h
          rw [if_neg (by simp [Region.wanted, hg, hy]; intro e2; rw [e2] at hw; simp at hw)]
          have hR2 := key (!want) e
          exact hK _ _ σ _ _ h (Ext.refl σ) ⟨by rw [Act.put_defers']; exact hR2.df, put_ok hR2.tm o.dst (by simp [RV]), hR2.mem⟩
      · rename_i vs hb
        obtain ⟨u, h1, h2⟩ := RVs.get d hR.tm hb
        have e := h2.val_inv
        subst e
        have hy : yielded ops a.tmps j = none := by
          unfold yielded
          rw [hd]
          simp only [Option.bind_some]
          have : a.tmps[d]? = some (.tuple vs) := by simpa using h1
          rw [this]
        rw [if_neg (by simp [Region.wanted, hg, hy])]
        exact hK _ _ σ _ _ h (Ext.refl σ) ⟨by rw [Act.put_defers']; exact hR.df, put_ok hR.tm o.dst (by simp [RV]), hR.mem⟩
      · simp at h
    · simp at h
theorem xops_ok (hE : EqOk P E) (hC : COk P C) {ops : Array Oper} {Q : Exit → Act → World → Prop} : ∀ (l : List Oper) {tm : List MV} {m : Mem} {k : KS} {r : Out}, xops P E C ops l tm m k = some r →
    ∀ {σ : Sg} {a : Act} {w : World}, C.env base w0 σ.x → Rel base w0 σ tm m a w → (∀ tm' m' σ' a' w', k tm' m' = some r → Ext σ σ' → Rel base w0 σ' tm' m' a' w' → Q .normal a' w') → wpList P ops Q l a w
  | [], tm, m, k, r, h, σ, a, w, hX, hR, hK => hK _ _ σ _ _ h (Ext.refl σ) hR
  | o :: l, tm, m, k, r, h, σ, a, w, hX, hR, hK => by
    refine wpList_step fun K hK2 => ?_
    refine xone_ok hE hC h hX hR K Q ?_
    intro tm' m' σ' a' w' h1 h2 h3
    exact hK2 _ _ (xops_ok hE hC l h1 (by rw [h2.x]; exact hX) h3 (fun tm'' m'' σ'' a'' w'' g1 g2 g3 => hK _ _ _ _ _ g1 (h2.trans g2) g3))
end
end Go.Proofs.Ytppklhfiajjhmaa.Y
