/- What is proved: a region that draws its order, carried out on the small memory in the text's order, does what the machine does in any order, if a check says that its operations don't meet. Conditions: none but those in each statement. -/
import Derived.Test.YtppklhfiajjhmaaZRasterShiftsY4
namespace Go.Proofs.Ytppklhfiajjhmaa.Y
open Go Go.RowKit
set_option linter.unusedVariables false
set_option linter.unusedSimpArgs false

/-- What an operation has done: the slot that it writes and the value; the block that it writes; the slots and the blocks that it has read. -/
structure Rec where
  dst : Option Nat
  v : MV
  wr : Option (Nat × Blk)
  tr : List Nat
  rd : List Nat
def setW (m : Mem) : Option (Nat × Blk) → Mem
  | some (b, k) => m.set b (some k)
  | none => m
def opReads (op : Op) (e : Operand → MV) : List Nat :=
  match op with
  | .load _ x => refs (e x)
  | .store _ x _ => refs (e x)
  | _ => []
def tmps (op : Op) : List Nat := op.operands.toList.filterMap fun | .tmp t => some t | _ => none
abbrev KR := List MV → Rec → Option Out
def xactD (C : Ctx) (b0 : Nat) (o : Oper) (tm : List MV) (m : Mem) (g : List Nat) (k : KR) (res : Option Res) : Option Out :=
  match res with
  | some (.val v) => fv v (fun v => fl (g ++ tmps o.op) (fun tr => fl (opReads o.op (ev tm)) (fun rd => k tm ⟨o.dst, v, none, tr, rd⟩)))
  | some (.new cells ty row) => fl cells (fun cells => fl (g ++ tmps o.op) (fun tr => fl (opReads o.op (ev tm)) (fun rd => k tm ⟨o.dst, newM row b0, some (b0, ⟨.lst cells, ty⟩), tr, rd⟩)))
  | some (.put b off vs blk) => fb blk (fun blk => fl (g ++ tmps o.op) (fun tr => fl (b :: opReads o.op (ev tm)) (fun rd => k tm ⟨o.dst, .val undef, some (b, blk), tr, rd⟩)))
  | some (.call f args) => match C.q f with
    | some G => G args (rdM m) (fun v => fv v (fun v => fl (g ++ tmps o.op) (fun tr => fl (refsL args) (fun rd => k tm ⟨o.dst, v, none, tr, rd⟩))))
    | none => match C.n f with
      | some G => G args (rdM m) (fun blk vf => bif (refsL args).contains b0 then none else fb blk (fun blk => fv (vf b0) (fun v => fl (g ++ tmps o.op) (fun tr => fl (refsL args) (fun rd => k tm ⟨o.dst, v, some (b0, blk), tr, rd⟩)))))
      | none => none
  | some (.app _ _ _ _ _) => none
  | none => none
def xdoD (P : Program) (E : Eqs) (C : Ctx) (b0 : Nat) (o : Oper) (tm : List MV) (m : Mem) (g : List Nat) (k : KR) : Option Out :=
  match xopC P E o.op (ev tm) (fun b => bif (opReads o.op (ev tm)).contains b then rdM m b else none) with
  | (c, q) => bif c then xactD C b0 o tm m g k q else none
def xoneD (P : Program) (E : Eqs) (C : Ctx) (ops : Array Oper) (b0 : Nat) (o : Oper) (tm : List MV) (m : Mem) (k : KR) : Option Out :=
  match o.guard with
  | none => xdoD P E C b0 o tm m [] k
  | some (j, want) => match (ops[j]?).bind (·.dst) with
    | some d => match tm[d]? with
      | some (.val (.bool b)) => way want b (xdoD P E C b0 o (tm.set d (.val (.bool want))) m [d] k) (k (tm.set d (.val (.bool (!want)))) ⟨o.dst, .val undef, none, [d], []⟩)
      | some (.val (.tuple _)) => k tm ⟨o.dst, .val undef, none, [d], []⟩
      | _ => none
    | none => none
/-- What a record says of any world in which what was read reads so. -/
def Stepper (P : Program) (X : Bs → World → (Nat → Value) → Prop) (ops : Array Oper) (o : Oper) (tm : List MV) (m : Mem) (q : Rec) : Prop :=
  q.dst = o.dst ∧ ∀ base w0 σ tm' m' a w K Q, X base w0 σ.x → Rel base w0 σ tm' m' a w → (∀ t ∈ q.tr, tm'[t]? = tm[t]?) → (∀ b ∈ q.rd, m'[b]? = m[b]?) →
    (∀ b k, q.wr = some (b, k) → b ∈ q.rd ∨ (b < m'.length ∧ ∀ k, m'[b]? ≠ some (some k))) →
    (∀ σ' a' w', Ext σ σ' → Rel base w0 σ' (put tm' q.dst q.v) (setW m' q.wr) a' w' → K a' w') →
    if Region.wanted o (yielded ops a.tmps) then o.wp P a w K Q else K (a.put o.dst undef) w
section
variable {P : Program} {E : Eqs} {C : Ctx}
theorem ev_same {tm tm' : List MV} {op : Op} (h : ∀ t ∈ tmps op, tm'[t]? = tm[t]?) {x : Operand} (hx : x ∈ op.operands.toList) : ev tm x = ev tm' x := by
  cases x with
  | tmp t =>
    have ht : t ∈ tmps op := by
      unfold tmps
      rw [List.mem_filterMap]
      exact ⟨.tmp t, hx, rfl⟩
    simp only [ev, List.getD_eq_getElem?_getD, h t ht]
  | _ => rfl
/-- What is known of a record of an operation that is carried out. -/
def Done (P : Program) (X : Bs → World → (Nat → Value) → Prop) (o : Oper) (tm : List MV) (m : Mem) (g : List Nat) (q : Rec) : Prop :=
  q.dst = o.dst ∧ (∃ l, q.tr = g ++ l) ∧ ∀ base w0 σ tm' m' a w K Q, X base w0 σ.x → Rel base w0 σ tm' m' a w → (∀ t ∈ q.tr, tm'[t]? = tm[t]?) → (∀ b ∈ q.rd, m'[b]? = m[b]?) →
    (∀ b k, q.wr = some (b, k) → b ∈ q.rd ∨ (b < m'.length ∧ ∀ k, m'[b]? ≠ some (some k))) →
    (∀ σ' a' w', Ext σ σ' → Rel base w0 σ' (put tm' q.dst q.v) (setW m' q.wr) a' w' → K a' w') → o.wp P a w K Q
theorem xdoD_ok (hE : EqOk P E) (hC : COk P C) {b0 : Nat} {o : Oper} {tm : List MV} {m : Mem} {g : List Nat} {k : KR} {r : Out} (h : xdoD P E C b0 o tm m g k = some r) :
    ∃ q, k tm q = some r ∧ Done P C.env o tm m g q := by
  have h := xopC_match P E o.op (ev tm) (fun b => bif (opReads o.op (ev tm)).contains b then rdM m b else none) (xactD C b0 o tm m g k) rfl (by simpa only [xdoD] using h)
  unfold xactD at h
  simp only [fl_eq, fv_eq, fb_eq] at h
  have reads : ∀ {σ : Sg} {m' : Mem} {base w0 w}, RM base w0 σ m' w → ∀ l : List Nat, (∀ b ∈ l, m'[b]? = m[b]?) → Reads σ w (fun b => bif l.contains b then rdM m b else none) := by
    intro σ m' base w0 w hm l hl b k g hb hg
    cases hc : l.contains b with
    | false => simp only [hc, cond_false] at hb; cases hb
    | true =>
      simp only [hc, cond_true] at hb
      have hin : b ∈ l := by simpa using hc
      refine hm.reads b k g ?_ hg
      unfold rdM at hb ⊢
      rw [hl b hin]
      exact hb
  split at h
  · rename_i v he
    refine ⟨_, h, rfl, ⟨_, rfl⟩, ?_⟩
    intro base w0 σ tm' m' a w K Q hX hR h1 h2 _ hK
    obtain ⟨u, g1, g2⟩ := xop_ok (σ := σ) hE o (ev tm) a _ w _ he (fun x hx => by rw [ev_same (fun t ht => h1 t (List.mem_append_right _ ht)) hx]; exact ev_ok hR.tm x) (reads hR.mem _ h2)
    unfold Oper.wp
    rw [g1]
    exact hK σ _ _ (Ext.refl σ) ⟨by rw [Act.put_defers']; exact hR.df, put_ok hR.tm o.dst g2, hR.mem⟩
  · rename_i cells ty row he
    refine ⟨_, h, rfl, ⟨_, rfl⟩, ?_⟩
    intro base w0 σ tm' m' a w K Q hX hR h1 h2 h3 hK
    obtain ⟨us, g1, g2⟩ := xop_ok (σ := σ) hE o (ev tm) a _ w _ he (fun x hx => by rw [ev_same (fun t ht => h1 t (List.mem_append_right _ ht)) hx]; exact ev_ok hR.tm x) (reads hR.mem _ h2)
    have hnil : opReads o.op (ev tm) = [] := by
      cases ho : o.op <;> simp only [opReads] <;> rw [ho] at he <;> simp only [xop, Bool.cond_eq_ite] at he <;> (repeat' (split at he)) <;> simp at he
    unfold Oper.wp
    rw [g2]
    have hfresh := h3 b0 _ rfl
    rw [hnil] at hfresh
    simp only [List.not_mem_nil, false_or] at hfresh
    obtain ⟨hlt, hfr⟩ := hfresh
    obtain ⟨hn, hm⟩ := hR.mem.newAt (b := b0) (blk := ⟨.lst cells, ty⟩) (m' := m'.set b0 (some ⟨.lst cells, ty⟩)) (rest := []) g1 rfl hfr (by simp [hlt]) (fun c hc k => by rw [List.getElem?_set_ne (Ne.symm hc)])
    simp only [List.append_nil] at hm
    have hX := extend_ext (g := w.heap.size) (n := us.length) hn
    exact hK _ _ _ hX ⟨by rw [Act.put_defers']; exact hR.df, put_ok (RVs.ext hX _ _ hR.tm) o.dst (newV_ok row), hm⟩
  · rename_i b off vs blk he
    refine ⟨_, h, rfl, ⟨_, rfl⟩, ?_⟩
    intro base w0 σ tm' m' a w K Q hX hR h1 h2 h3 hK
    obtain ⟨g', cs, us, t, g1, g2, g3, g4, k', g5, g6, g7, g8, g9, g10⟩ := xop_ok (σ := σ) hE o (ev tm) a _ w _ he (fun x hx => by rw [ev_same (fun t ht => h1 t (List.mem_append_right _ ht)) hx]; exact ev_ok hR.tm x) (reads hR.mem _ (fun b hb => h2 b (List.mem_cons_of_mem _ hb)))
    unfold Oper.wp
    rw [g4]
    have hmb : m'[b]? = some (some k') := by
      rw [h2 b List.mem_cons_self]
      simp only at g5
      cases hcc : (opReads o.op (ev tm)).contains b with
      | false => rw [hcc] at g5; cases g5
      | true =>
        rw [hcc, cond_true] at g5
        unfold rdM at g5
        cases hm : m[b]? with
        | none => simp [hm] at g5
        | some x => cases x <;> simp [hm] at g5; rw [g5]
    have hlt : b < m'.length := (List.getElem?_eq_some_iff.1 hmb).1
    exact hK σ _ _ (Ext.refl σ) ⟨by rw [Act.put_defers']; exact hR.df, put_ok hR.tm o.dst (by simp [RV]), hR.mem.put (blk' := blk) hmb g1 g2 g3 g6 (by show (m'.set b (some blk))[b]? = _; simp [hlt]) g7 g8 g9 g10 (fun c hc k => by show (m'.set b (some blk))[c]? = _ ↔ _; rw [List.getElem?_set_ne (Ne.symm hc)])⟩
  · rename_i f args he
    split at h
    · rename_i G hG
      obtain ⟨hq, hf⟩ := hC.q f G hG
      obtain ⟨v, h3, h4⟩ := hq _ _ _ _ h
      refine ⟨_, h3, rfl, ⟨_, rfl⟩, ?_⟩
      intro base w0 σ tm' m' a w K Q hX hR h1 h2 _ hK
      have hrd0 : opReads o.op (ev tm) = [] := by
        cases ho : o.op <;> simp only [opReads] <;> rw [ho] at he <;> simp only [xop, Bool.cond_eq_ite] at he <;> (repeat' (split at he)) <;> simp at he
      obtain ⟨us, g1, g2⟩ := xop_ok (σ := σ) hE o (ev tm) a _ w _ he (fun x hx => by rw [ev_same (fun t ht => h1 t (List.mem_append_right _ ht)) hx]; exact ev_ok hR.tm x) (by rw [hrd0]; intro b k g hb; simp at hb) hf
      unfold Oper.wp
      rw [g2]
      refine Calls.mono (h4 base w0 σ us w hX hR.mem.bel hR.mem.base g1 (fun b k hin hb => ?_)) ?_
      · have : m'[b]? = m[b]? := h2 b hin
        intro gg hgg
        refine hR.mem.reads b k gg ?_ hgg
        unfold rdM at hb ⊢
        rw [this]; exact hb
      · rintro e w' ⟨u, rfl, h5, h6⟩
        exact hK σ _ _ (Ext.refl σ) ⟨by rw [Act.put_defers']; exact hR.df, put_ok hR.tm o.dst h5, hR.mem.call h6⟩
    · split at h
      · rename_i G hG
        obtain ⟨hq, hf⟩ := hC.n f G hG
        obtain ⟨blk, vf, h3, hro, h4⟩ := hq _ _ _ _ h
        cases hcon : (refsL args).contains b0 with
        | true => rw [hcon] at h3; simp at h3
        | false =>
        rw [hcon] at h3
        simp only [cond_false, fb_eq, fv_eq, fl_eq] at h3
        refine ⟨_, h3, rfl, ⟨_, rfl⟩, ?_⟩
        intro base w0 σ tm' m' a w K Q hX hR h1 h2 hfr0 hK
        have hrd0 : opReads o.op (ev tm) = [] := by
          cases ho : o.op <;> simp only [opReads] <;> rw [ho] at he <;> simp only [xop, Bool.cond_eq_ite] at he <;> (repeat' (split at he)) <;> simp at he
        obtain ⟨us, g1, g2⟩ := xop_ok (σ := σ) hE o (ev tm) a _ w _ he (fun x hx => by rw [ev_same (fun t ht => h1 t (List.mem_append_right _ ht)) hx]; exact ev_ok hR.tm x) (by rw [hrd0]; intro b k g hb; simp at hb) hf
        unfold Oper.wp
        rw [g2]
        have hfresh := hfr0 b0 _ rfl
        have hnot : ¬ b0 ∈ refsL args := by simpa using hcon
        rcases hfresh with hfresh | ⟨hlt, hfr⟩
        · exact absurd hfresh hnot
        refine Calls.mono (h4 base w0 σ us w hX hR.mem.bel hR.mem.base g1 (fun b k hin hb => ?_)) ?_
        · have : m'[b]? = m[b]? := h2 b hin
          intro gg hgg
          refine hR.mem.reads b k gg ?_ hgg
          unfold rdM at hb ⊢
          rw [this]; exact hb
        · rintro e w' ⟨u, rfl, h5, h6⟩
          obtain ⟨τ, h7, h8, h9⟩ := hR.mem.fresh (m' := m'.set b0 (some blk)) (b := b0) h6 h5 hro hfr (by simp [hlt]) (fun c hc k => by rw [List.getElem?_set_ne (Ne.symm hc)])
          exact hK τ _ _ h7 ⟨by rw [Act.put_defers']; exact hR.df, put_ok (RVs.ext h7 _ _ hR.tm) o.dst h8, h9⟩
      · simp at h
  · simp at h
  · simp at h
theorem xoneD_ok (hE : EqOk P E) (hC : COk P C) {ops : Array Oper} {b0 : Nat} {o : Oper} {tm : List MV} {m : Mem} {k : KR} {r : Out} (h : xoneD P E C ops b0 o tm m k = some r) :
    ∃ q, k tm q = some r ∧ Stepper P C.env ops o tm m q := by
  unfold xoneD at h
  split at h
  · rename_i hg
    obtain ⟨q, h1, h2, _, h3⟩ := xdoD_ok hE hC h
    refine ⟨q, h1, h2, ?_⟩
    intro base w0 σ tm' m' a w K Q hX hR g1 g2 g3 g4
    rw [if_pos (by simp [Region.wanted, hg])]
    exact h3 base w0 σ tm' m' a w K Q hX hR g1 g2 g3 g4
  · rename_i j want hg
    split at h
    · rename_i d hd
      split at h
      · rename_i b hb
        have hlt : d < tm.length := (List.getElem?_eq_some_iff.1 hb).1
        have key : ∀ c, b = c → tm.set d (.val (.bool c)) = tm := by
          intro c hc
          subst hc
          apply List.ext_getElem?
          intro i
          rw [List.getElem?_set]
          split
          · rename_i e; subst e; first | exact hb.symm | (rw [if_pos hlt]; exact hb.symm) | simp_all
          · rfl
        have hy : ∀ {σ : Sg} {tm' : List MV} {a : Act}, RVs σ tm' a.tmps.toList → tm'[d]? = tm[d]? → yielded ops a.tmps j = some b := by
          intro σ tm' a ht he
          obtain ⟨u, h1, h2⟩ := RVs.get d ht (he.trans hb)
          have e := h2.val_inv
          subst e
          unfold yielded
          rw [hd]
          simp only [Option.bind_some]
          have : a.tmps[d]? = some (.bool b) := by simpa using h1
          rw [this]
        rw [way_eq] at h
        cases hw : b == want with
        | true =>
          have e : b = want := by simpa using hw
          rw [hw] at h
          simp only [cond_true] at h
          rw [key want e] at h
          obtain ⟨q, h1, h2, ⟨l, hl⟩, h3⟩ := xdoD_ok hE hC h
          refine ⟨q, h1, h2, ?_⟩
          intro base w0 σ tm' m' a w K Q hX hR g1 g2 g3 g4
          rw [if_pos (by simp [Region.wanted, hg, hy hR.tm (g1 d (by rw [hl]; simp)), e])]
          exact h3 base w0 σ tm' m' a w K Q hX hR g1 g2 g3 g4
        | false =>
          have e : b = !want := by cases b <;> cases want <;> simp_all
          rw [hw] at h
          simp only [cond_false] at h
          rw [key (!want) e] at h
          refine ⟨_, h, rfl, ?_⟩
          intro base w0 σ tm' m' a w K Q hX hR g1 g2 g3 g4
          rw [if_neg (by simp [Region.wanted, hg, hy hR.tm (g1 d (by simp))]; intro e2; rw [e2] at hw; simp at hw)]
          exact g4 σ _ _ (Ext.refl σ) ⟨by rw [Act.put_defers']; exact hR.df, put_ok hR.tm o.dst (by simp [RV]), hR.mem⟩
      · rename_i vs hb
        refine ⟨_, h, rfl, ?_⟩
        intro base w0 σ tm' m' a w K Q hX hR g1 g2 g3 g4
        have hy : yielded ops a.tmps j = none := by
          obtain ⟨u, h1, h2⟩ := RVs.get d hR.tm ((g1 d (by simp)).trans hb)
          have e := h2.val_inv
          subst e
          unfold yielded
          rw [hd]
          simp only [Option.bind_some]
          have : a.tmps[d]? = some (.tuple vs) := by simpa using h1
          rw [this]
        rw [if_neg (by simp [Region.wanted, hg, hy])]
        exact g4 σ _ _ (Ext.refl σ) ⟨by rw [Act.put_defers']; exact hR.df, put_ok hR.tm o.dst (by simp [RV]), hR.mem⟩
      · simp at h
    · simp at h
end
end Go.Proofs.Ytppklhfiajjhmaa.Y
