/- What is proved: one operation of a region, and a region in the text's order, carried out on the small memory, do what the machine does. Conditions: none but those in each statement. -/
import Derived.Test.YtokdpnpldoaepaaX3
namespace Go.Proofs.Ytokdpnpldoaepaa.X
open Go Go.RowKit
set_option linter.unusedVariables false
set_option linter.unusedSimpArgs false

abbrev KV := MV → Option Out
abbrev KM := MV → Mem → Option Out
abbrev KS := List MV → Mem → Option Out
/-- What is known of the functions that are called: those that read what they are given and write nothing; others. -/
structure Ctx where
  q : Nat → Option (List MV → (Nat → Option Blk) → KV → Option Out)
  i : Nat → Option (List MV → Mem → KM → Option Out)
def rdM (m : Mem) (b : Nat) : Option Blk := (m[b]?).join
mutual
def refs : MV → List Nat
  | .val _ => []
  | .ptr b _ => [b]
  | .sl b _ _ _ => [b]
  | .fn _ x y => refsL x ++ refsL y
  | .agg l => refsL l
  | .tup l => refsL l
def refsL : List MV → List Nat
  | [] => []
  | x :: l => refs x ++ refsL l
end
def newM : Option (Nat × Nat) → Nat → MV
  | none, b => .ptr b 0
  | some (n, c), b => .sl b 0 n c
def Reads1 (σ : Nat → Option Nat) (w : World) (b : Nat) (k : Blk) : Prop := ∃ (g : Nat) (cs : List Value), σ b = some g ∧ w.heap[g]? = some (.cells cs.toArray k.ty (0, 0)) ∧ RVs σ k.cells cs
/-- A call that reads what it is given, and turns nothing that was there. -/
def QOk (P : Program) (f : Nat) (G : List MV → (Nat → Option Blk) → KV → Option Out) : Prop :=
  ∀ args rd k r, G args rd k = some r → ∃ v, k v = some r ∧ ∀ σ us w, RVs σ args us → (∀ b k, b ∈ refsL args → rd b = some k → Reads1 σ w b k) →
    Calls P f us.toArray w fun e w' => ∃ u, e = .returned u ∧ RV σ v u ∧ Below w.heap.size w w'
def IOk (P : Program) (f : Nat) (G : List MV → Mem → KM → Option Out) : Prop :=
  ∀ args m k r, G args m k = some r → ∀ base w0 σ us w, RVs σ args us → RM base w0 σ m w →
    Calls P f us.toArray w fun e w' => ∃ v m' σ' u, k v m' = some r ∧ e = .returned u ∧ Ext σ σ' ∧ RV σ' v u ∧ RM base w0 σ' m' w'
structure COk (P : Program) (C : Ctx) : Prop where
  q : ∀ f G, C.q f = some G → QOk P f G ∧ FnOk P f
  i : ∀ f G, C.i f = some G → IOk P f G ∧ FnOk P f
/-- Lists and values laid out, for the kernel's sake: each is what it was. -/
def fl {α β : Type} : List α → (List α → β) → β
  | [], k => k []
  | x :: l, k => fl l (fun l => k (x :: l))
theorem fl_eq {α β : Type} : ∀ (l : List α) (k : List α → β), fl l k = k l
  | [], k => rfl
  | x :: l, k => by rw [fl, fl_eq l]
def fv {β : Type} (v : MV) (k : MV → β) : β :=
  match v with
  | .val (.int a n) => k (.val (.int a n))
  | .val (.bool b) => k (.val (.bool b))
  | .val x => k (.val x)
  | .ptr b o => k (.ptr b o)
  | .sl b o n c => k (.sl b o n c)
  | .fn f x y => k (.fn f x y)
  | .agg l => fl l (fun l => k (.agg l))
  | .tup l => fl l (fun l => k (.tup l))
theorem fv_eq {β : Type} (v : MV) (k : MV → β) : fv v k = k v := by
  unfold fv
  split <;> first | rfl | rw [fl_eq]
def xdo (P : Program) (E : Eqs) (C : Ctx) (o : Oper) (tm : List MV) (m : Mem) (k : KS) : Option Out :=
  match xop P E o.op (ev tm) (rdM m) with
  | some (.val v) => fv v (fun v => fl (put tm o.dst v) (fun tm => k tm m))
  | some (.new cells ty row) => fl cells (fun cells => fl (put tm o.dst (newM row m.length)) (fun tm => fl (m ++ [some ⟨cells, ty⟩]) (fun m => k tm m)))
  | some (.put b off vs) => match m[b]? with
    | some (some blk) => fl (blk.cells.take off ++ vs ++ blk.cells.drop (off + vs.length)) (fun cs => fl (put tm o.dst (.val undef)) (fun tm => fl (m.set b (some ⟨cs, blk.ty⟩)) (fun m => k tm m)))
    | _ => none
  | some (.call f args) => match C.q f with
    | some G => G args (rdM m) (fun v => fv v (fun v => fl (put tm o.dst v) (fun tm => k tm m)))
    | none => match C.i f with
      | some G => G args m (fun v m' => fv v (fun v => fl (put tm o.dst v) (fun tm => k tm m')))
      | none => none
  | none => none
/-- One of two ways: x if b is what is wanted. -/
def way (want b : Bool) (x y : Option Out) : Option Out := bif want then (bif b then x else y) else (bif b then y else x)
theorem way_eq (want b : Bool) (x y : Option Out) : way want b x y = bif b == want then x else y := by cases want <;> cases b <;> rfl
def xone (P : Program) (E : Eqs) (C : Ctx) (ops : Array Oper) (o : Oper) (tm : List MV) (m : Mem) (k : KS) : Option Out :=
  match o.guard with
  | none => xdo P E C o tm m k
  | some (j, want) => match (ops[j]?).bind (·.dst) with
    | some d => match tm[d]? with
      | some (.val (.bool b)) => way want b (xdo P E C o (tm.set d (.val (.bool want))) m k) (k (put (tm.set d (.val (.bool (!want)))) o.dst (.val undef)) m)
      | some (.val (.tuple _)) => k (put tm o.dst (.val undef)) m
      | _ => none
    | none => none
def xops (P : Program) (E : Eqs) (C : Ctx) (ops : Array Oper) : List Oper → List MV → Mem → KS → Option Out
  | [], tm, m, k => k tm m
  | o :: rest, tm, m, k => xone P E C ops o tm m (fun tm m => xops P E C ops rest tm m k)
section
variable {P : Program} {E : Eqs} {C : Ctx} {base : Nat} {w0 : World}
theorem RM.reads {σ : Nat → Option Nat} {m : Mem} {w : World} (h : RM base w0 σ m w) : Reads σ w (rdM m) := by
  intro b k hb
  unfold rdM at hb
  cases hm : m[b]? with
  | none => simp [hm] at hb
  | some x =>
    cases x with
    | none => simp [hm] at hb
    | some k' =>
      simp [hm] at hb
      subst hb
      exact h.blk b k' hm
theorem RM.lt {σ : Nat → Option Nat} {m : Mem} {w : World} (h : RM base w0 σ m w) {b g : Nat} (hb : σ b = some g) : g < w.heap.size := by
  obtain ⟨k, hk⟩ := h.dom b g hb
  obtain ⟨g', cs, h1, h2, _⟩ := h.blk b k hk
  rw [hb] at h1
  injection h1 with h1
  subst h1
  exact (Array.getElem?_eq_some_iff.1 h2).1
/-- A call that turns nothing that was there. -/
theorem RM.call {σ : Nat → Option Nat} {m : Mem} {w w' : World} (h : RM base w0 σ m w) (hb : Below w.heap.size w w') : RM base w0 σ m w' := by
  refine ⟨fun b k hk => ?_, h.inj, h.dom, h.lo, ?_, Nat.le_trans h.base hb.size⟩
  · obtain ⟨g, cs, h1, h2, h3⟩ := h.blk b k hk
    exact ⟨g, cs, h1, by rw [hb.block g (Array.getElem?_eq_some_iff.1 h2).1, h2], h3⟩
  · exact h.bel.trans (hb.mono h.base)
theorem RM.drew {σ : Nat → Option Nat} {m : Mem} {w : World} (h : RM base w0 σ m w) : RM base w0 σ m { w with drawn := w.drawn + 1 } :=
  ⟨h.blk, h.inj, h.dom, h.lo, ⟨h.bel.os, h.bel.tape, h.bel.output, h.bel.size, h.bel.block⟩, h.base⟩
def extend (σ : Nat → Option Nat) (b g : Nat) : Nat → Option Nat := fun c => if c = b then some g else σ c
theorem extend_ext {σ : Nat → Option Nat} {b g : Nat} (h : σ b = none) : Ext σ (extend σ b g) := by
  intro c x hc
  unfold extend
  split
  · rename_i e; subst e; rw [h] at hc; cases hc
  · exact hc
/-- A new block, at a place that holds none. -/
theorem RM.newAt {σ : Nat → Option Nat} {m m' : Mem} {w : World} (h : RM base w0 σ m w) {b ty : Nat} {cells : List MV} {us : List Value} (hu : RVs σ cells us)
    (hb : ∀ k, m[b]? ≠ some (some k)) (hm : m'[b]? = some (some ⟨cells, ty⟩)) (ho : ∀ c, c ≠ b → ∀ k, m'[c]? = some (some k) ↔ m[c]? = some (some k)) :
    σ b = none ∧ RM base w0 (extend σ b w.heap.size) m' (w.alloc (.cells us.toArray ty (0, 0))) := by
  have hn : σ b = none := by
    cases hs : σ b with
    | none => rfl
    | some g => obtain ⟨k, hk⟩ := h.dom b g hs; exact absurd hk (hb k)
  have hx := extend_ext (g := w.heap.size) hn
  have he : extend σ b w.heap.size b = some w.heap.size := by simp [extend]
  have hne : ∀ c, c ≠ b → extend σ b w.heap.size c = σ c := fun c hc => by simp [extend, hc]
  refine ⟨hn, ⟨fun c k hk => ?_, fun c d g h1 h2 => ?_, fun c g hc => ?_, fun c g hc => ?_, ?_, ?_⟩⟩
  · by_cases e : c = b
    · subst e
      rw [hm] at hk
      simp only [Option.some.injEq] at hk
      subst hk
      refine ⟨w.heap.size, us, he, ?_, RVs.ext hx _ _ hu⟩
      show (w.heap.push _)[w.heap.size]? = _
      simp
    · obtain ⟨g, cs, h1, h2, h3⟩ := h.blk c k ((ho c e k).1 hk)
      refine ⟨g, cs, hx _ _ h1, ?_, RVs.ext hx _ _ h3⟩
      rw [Below.heap_alloc _ _ _ (Array.getElem?_eq_some_iff.1 h2).1, h2]
  · by_cases e1 : c = b
    · by_cases e2 : d = b
      · rw [e1, e2]
      · subst e1
        rw [he] at h1
        rw [hne d e2] at h2
        injection h1 with h1
        have := h.lt h2
        omega
    · by_cases e2 : d = b
      · subst e2
        rw [he] at h2
        rw [hne c e1] at h1
        injection h2 with h2
        have := h.lt h1
        omega
      · rw [hne c e1] at h1
        rw [hne d e2] at h2
        exact h.inj c d g h1 h2
  · by_cases e : c = b
    · subst e; exact ⟨_, hm⟩
    · rw [hne c e] at hc
      obtain ⟨k, hk⟩ := h.dom c g hc
      exact ⟨k, (ho c e k).2 hk⟩
  · by_cases e : c = b
    · subst e
      rw [he] at hc
      injection hc with hc
      subst hc
      exact h.base
    · rw [hne c e] at hc
      exact h.lo c g hc
  · exact h.bel.alloc h.base _
  · have := h.base
    simp
    omega
theorem newV_ok {σ : Nat → Option Nat} {b g : Nat} (row : Option (Nat × Nat)) : RV (extend σ b g) (newM row b) (newV row g) := by
  cases row with
  | none => simp only [newM, newV, RV]; exact ⟨g, by simp [extend], rfl⟩
  | some p => obtain ⟨n, c⟩ := p; simp only [newM, newV, RV]; exact ⟨g, by simp [extend], rfl⟩
/-- A store. -/
theorem RM.put {σ : Nat → Option Nat} {m m' : Mem} {w : World} (h : RM base w0 σ m w) {b off g t : Nat} {blk : Blk} {vs : List MV} {cs us : List Value}
    (hb : m[b]? = some (some blk)) (hg : σ b = some g) (hc : w.heap[g]? = some (.cells cs.toArray t (0, 0))) (hu : RVs σ vs us)
    (hm : m'[b]? = some (some ⟨blk.cells.take off ++ vs ++ blk.cells.drop (off + vs.length), blk.ty⟩)) (ho : ∀ c, c ≠ b → ∀ k, m'[c]? = some (some k) ↔ m[c]? = some (some k)) :
    RM base w0 σ m' (w.setRow g (cs.take off ++ us ++ cs.drop (off + us.length)).toArray) := by
  obtain ⟨g', cs', h1, h2, h3⟩ := h.blk b blk hb
  rw [hg] at h1
  injection h1 with h1
  subst h1
  rw [hc] at h2
  simp only [Option.some.injEq, Obj.cells.injEq, and_true] at h2
  obtain ⟨e1, e2⟩ := h2
  have e3 : cs = cs' := by have := congrArg Array.toList e1; simpa using this
  subst e3; subst e2
  have hl := hu.length
  refine ⟨fun c k hk => ?_, h.inj, fun c x hx => ?_, h.lo, ?_, ?_⟩
  · by_cases e : c = b
    · subst e
      rw [hm] at hk
      simp only [Option.some.injEq] at hk
      subst hk
      refine ⟨g, _, hg, setRow_heap w g _ _ _ _ hc, ?_⟩
      rw [hl]
      exact ((h3.take off).append hu).append (h3.drop _)
    · obtain ⟨g2, cs2, h4, h5, h6⟩ := h.blk c k ((ho c e k).1 hk)
      refine ⟨g2, cs2, h4, ?_, h6⟩
      rw [setRow_other w g g2 _ (fun e' => e (h.inj c b g (by rw [h4, e']) hg)), h5]
  · by_cases e : c = b
    · subst e; exact ⟨_, hm⟩
    · obtain ⟨k, hk⟩ := h.dom c x hx
      exact ⟨k, (ho c e k).2 hk⟩
  · have := h.lo b g hg
    exact h.bel.trans ⟨rfl, rfl, rfl, by simp, fun k hk => setRow_other w g k _ (by omega)⟩
  · have := h.base
    simpa using this
theorem Act.put_defers' (a : Act) (d : Option Nat) (v : Value) : (a.put d v).defers = a.defers := by cases d <;> rfl
/-- An operation that is carried out. -/
theorem xdo_ok (hE : EqOk P E) (hC : COk P C) {o : Oper} {tm : List MV} {m : Mem} {k : KS} {r : Out} (h : xdo P E C o tm m k = some r)
    {σ : Nat → Option Nat} {a : Act} {w : World} (hR : Rel base w0 σ tm m a w) (K : Act → World → Prop) (Q : Exit → Act → World → Prop)
    (hK : ∀ tm' m' σ' a' w', k tm' m' = some r → Ext σ σ' → Rel base w0 σ' tm' m' a' w' → K a' w') : o.wp P a w K Q := by
  unfold xdo at h
  simp only [fl_eq, fv_eq] at h
  have hx := fun res (he : xop P E o.op (ev tm) (rdM m) = some res) => xop_ok hE o (ev tm) a (rdM m) w res he (fun x _ => ev_ok hR.tm x) hR.mem.reads
  unfold Oper.wp
  split at h
  · rename_i v he
    obtain ⟨u, h1, h2⟩ := hx _ he
    rw [h1]
    exact hK _ _ σ _ _ h (Ext.refl σ) ⟨by rw [Act.put_defers']; exact hR.df, put_ok hR.tm o.dst h2, hR.mem⟩
  · rename_i cells ty row he
    obtain ⟨us, h1, h2⟩ := hx _ he
    rw [h2]
    obtain ⟨hn, hm⟩ := hR.mem.newAt (b := m.length) (ty := ty) (m' := m ++ [some ⟨cells, ty⟩]) h1 (by simp) (by simp)
      (fun c hc k => by
        rcases Nat.lt_or_ge c m.length with hl | hl
        · rw [List.getElem?_append_left hl]
        · have : m[c]? = none := by simp; omega
          rw [this]
          simp
          intro h9
          rw [List.getElem?_append_right hl] at h9
          have : c - m.length ≠ 0 := by omega
          cases hq : c - m.length with
          | zero => omega
          | succ q => rw [hq] at h9; simp at h9)
    have hX := extend_ext (g := w.heap.size) hn
    exact hK _ _ _ _ _ h hX ⟨by rw [Act.put_defers']; exact hR.df, put_ok (RVs.ext hX _ _ hR.tm) o.dst (newV_ok row), hm⟩
  · rename_i b off vs he
    obtain ⟨g, cs, us, t, h1, h2, h3, h4⟩ := hx _ he
    split at h
    · rename_i blk hb
      rw [h4]
      have hlt : b < m.length := (List.getElem?_eq_some_iff.1 hb).1
      refine hK _ _ σ _ _ h (Ext.refl σ) ⟨by rw [Act.put_defers']; exact hR.df, put_ok hR.tm o.dst (by simp [RV]), hR.mem.put hb h1 h2 h3 (by simp [hlt]) (fun c hc k => by rw [List.getElem?_set_ne (Ne.symm hc)])⟩
    · simp at h
  · rename_i f args he
    have hcall := hx _ he
    split at h
    · rename_i G hG
      obtain ⟨hq, hf⟩ := hC.q f G hG
      obtain ⟨us, h1, h2⟩ := hcall hf
      obtain ⟨v, h3, h4⟩ := hq _ _ _ _ h
      rw [h2]
      refine Calls.mono (h4 σ us w h1 (fun b k _ hb => hR.mem.reads b k hb)) ?_
      rintro e w' ⟨u, rfl, h5, h6⟩
      exact hK _ _ σ _ _ h3 (Ext.refl σ) ⟨by rw [Act.put_defers']; exact hR.df, put_ok hR.tm o.dst h5, hR.mem.call h6⟩
    · split at h
      · rename_i G hG
        obtain ⟨hi, hf⟩ := hC.i f G hG
        obtain ⟨us, h1, h2⟩ := hcall hf
        rw [h2]
        refine Calls.mono (hi _ _ _ _ h base w0 σ us w h1 hR.mem) ?_
        rintro e w' ⟨v, m', σ', u, h3, rfl, h4, h5, h6⟩
        exact hK _ _ σ' _ _ h3 h4 ⟨by rw [Act.put_defers']; exact hR.df, put_ok (RVs.ext h4 _ _ hR.tm) o.dst h5, h6⟩
      · simp at h
  · simp at h
theorem xone_ok (hE : EqOk P E) (hC : COk P C) {ops : Array Oper} {o : Oper} {tm : List MV} {m : Mem} {k : KS} {r : Out} (h : xone P E C ops o tm m k = some r)
    {σ : Nat → Option Nat} {a : Act} {w : World} (hR : Rel base w0 σ tm m a w) (K : Act → World → Prop) (Q : Exit → Act → World → Prop)
    (hK : ∀ tm' m' σ' a' w', k tm' m' = some r → Ext σ σ' → Rel base w0 σ' tm' m' a' w' → K a' w') :
    if Region.wanted o (yielded ops a.tmps) then o.wp P a w K Q else K (a.put o.dst undef) w := by
  unfold xone at h
  split at h
  · rename_i hg
    rw [if_pos (by simp [Region.wanted, hg])]
    exact xdo_ok hE hC h hR K Q hK
  · rename_i j want hg
    split at h
    · rename_i d hd
      split at h
      · rename_i b hb
        obtain ⟨u, h1, h2⟩ := RVs.get d hR.tm hb
        have e := h2.val_inv
        subst e
        have hy : yielded ops a.tmps j = some b := by
          unfold yielded
          rw [hd]
          simp only [Option.bind_some]
          have : a.tmps[d]? = some (.bool b) := by simpa using h1
          rw [this]
        have hlt : d < tm.length := (List.getElem?_eq_some_iff.1 hb).1
        have key : ∀ c, b = c → Rel base w0 σ (tm.set d (.val (.bool c))) m a w := by
          intro c hc
          subst hc
          have : tm.set d (.val (.bool b)) = tm := by
            apply List.ext_getElem?
            intro i
            rw [List.getElem?_set]
            split
            · rename_i e; subst e; first | exact hb.symm | (rw [if_pos hlt]; exact hb.symm) | simp_all
            · rfl
          rw [this]
          exact hR
        rw [way_eq] at h
        cases hw : b == want with
        | true =>
          have e : b = want := by simpa using hw
          rw [hw] at h
          simp only [cond_true] at h
          rw [if_pos (by simp [Region.wanted, hg, hy, e])]
          exact xdo_ok hE hC h (key want e) K Q hK
        | false =>
          have e : b = !want := by cases b <;> cases want <;> simp_all
          rw [hw] at h
          simp only [cond_false] at h
          rw [if_neg (by simp [Region.wanted, hg, hy]; intro e2; rw [e2] at hw; simp at hw)]
          have hR2 := key (!want) e
          exact hK _ _ σ _ _ h (Ext.refl σ) ⟨by rw [Act.put_defers']; exact hR2.df, put_ok hR2.tm o.dst (by simp [RV]), hR2.mem⟩
      · rename_i vs hb
        obtain ⟨u, h1, h2⟩ := RVs.get d hR.tm hb
        have e := h2.val_inv
        subst e
        have hy : yielded ops a.tmps j = none := by
          unfold yielded
          rw [hd]
          simp only [Option.bind_some]
          have : a.tmps[d]? = some (.tuple vs) := by simpa using h1
          rw [this]
        rw [if_neg (by simp [Region.wanted, hg, hy])]
        exact hK _ _ σ _ _ h (Ext.refl σ) ⟨by rw [Act.put_defers']; exact hR.df, put_ok hR.tm o.dst (by simp [RV]), hR.mem⟩
      · simp at h
    · simp at h
theorem xops_ok (hE : EqOk P E) (hC : COk P C) {ops : Array Oper} {Q : Exit → Act → World → Prop} : ∀ (l : List Oper) {tm : List MV} {m : Mem} {k : KS} {r : Out}, xops P E C ops l tm m k = some r →
    ∀ {σ : Nat → Option Nat} {a : Act} {w : World}, Rel base w0 σ tm m a w → (∀ tm' m' σ' a' w', k tm' m' = some r → Ext σ σ' → Rel base w0 σ' tm' m' a' w' → Q .normal a' w') → wpList P ops Q l a w
  | [], tm, m, k, r, h, σ, a, w, hR, hK => hK _ _ σ _ _ h (Ext.refl σ) hR
  | o :: l, tm, m, k, r, h, σ, a, w, hR, hK => by
    refine wpList_step fun K hK2 => ?_
    refine xone_ok hE hC h hR K Q ?_
    intro tm' m' σ' a' w' h1 h2 h3
    exact hK2 _ _ (xops_ok hE hC l h1 h3 (fun tm'' m'' σ'' a'' w'' g1 g2 g3 => hK _ _ _ _ _ g1 (h2.trans g2) g3))
end
end Go.Proofs.Ytokdpnpldoaepaa.X
