/- What is proved: each operation, carried out on the small memory, does what the machine does. Conditions: none but those in the statement. -/
import Derived.Test.YtppklhfiajjhmaaZRasterShiftsY2
namespace Go.Proofs.Ytppklhfiajjhmaa.Y
open Go Go.RowKit
set_option linter.unusedVariables false
set_option linter.unusedSimpArgs false
section
variable {P : Program} {σ : Sg}
theorem RV.ptr_inv {b o : Nat} {u : Value} (h : RV σ (.ptr b o) u) : ∃ g, σ b = some g ∧ u = .pointer (some ⟨g, σ.off b + o, none⟩) := by simpa only [RV] using h
theorem RV.val_inv {v u : Value} (h : RV σ (.val v) u) : u = v := by simpa only [RV] using h
theorem RV.agg_inv {l : List MV} {u : Value} (h : RV σ (.agg l) u) : ∃ xs, RVs σ l xs ∧ u = .agg xs.toArray := by simpa only [RV] using h
theorem RV.tup_inv {l : List MV} {u : Value} (h : RV σ (.tup l) u) : ∃ xs, RVs σ l xs ∧ u = .tuple xs.toArray := by simpa only [RV] using h
theorem RV.fn_inv {f : Nat} {x y : List MV} {u : Value} (h : RV σ (.fn f x y) u) : ∃ xs ys, RVs σ x xs ∧ RVs σ y ys ∧ u = .func (.func f) xs.toArray ys.toArray := by simpa only [RV] using h
theorem RV.sl_inv {b o n c : Nat} {u : Value} (h : RV σ (.sl b o n c) u) : ∃ g, σ b = some g ∧ u = .slice (some ⟨g, σ.off b + o, none⟩) n c := by simpa only [RV] using h
theorem RV.pe_inv {b s i o : Nat} {u : Value} (h : RV σ (.pe b s i o) u) : ∃ g, σ b = some g ∧ u = .pointer (some ⟨g, σ.off b + (i * s + o), none⟩) := by simpa only [RV] using h
theorem RV.va_inv {b i n s : Nat} {u : Value} (h : RV σ (.va b i n s) u) : ∃ A c, u = .slice A n c ∧ n ≤ c ∧ (0 < n → ∃ g, σ b = some g ∧ A = some ⟨g, σ.off b + i * s, none⟩) := by simpa only [RV] using h
theorem RV.xs_inv {x n : Nat} {u : Value} (h : RV σ (.xs x n) u) : u = σ.x x ∧ ∃ A c, u = .slice A n c := by simpa only [RV] using h
/-- A row of records, parted at one of them. -/
theorem recs_part (sh : List (Option IntKind)) {l : List (List Int)} {i : Nat} (hi : i < l.length) :
    l.flatMap (recC sh 0) = (l.take i).flatMap (recC sh 0) ++ recC sh 0 (l.getD i []) ++ (l.drop (i + 1)).flatMap (recC sh 0) := by
  have e : l = l.take i ++ l.getD i [] :: l.drop (i + 1) := by
    rw [List.getD_eq_getElem?_getD, List.getElem?_eq_getElem hi, Option.getD_some, ← List.drop_eq_getElem_cons hi, List.take_append_drop]
  conv => lhs; rw [e]
  simp
theorem recs_len (sh : List (Option IntKind)) : ∀ (l : List (List Int)), (l.flatMap (recC sh 0)).length = l.length * sh.length
  | [] => by simp
  | r :: l => by
    have := recs_len sh l
    simp only [List.flatMap_cons, List.length_append, recC_len, this, List.length_cons]
    rw [Nat.add_mul]; omega
theorem recC_get : ∀ (sh : List (Option IntKind)) (c : Nat) (r : List Int) (j : Nat), (recC sh c r)[j]? = match sh[j]? with
    | some (some k) => some (.val (.int k (r.getD (c + j) 0)))
    | some none => some (.val (.bool (r.getD (c + j) 0 != 0)))
    | none => none
  | [], c, r, j => by simp [recC]
  | some k :: sh, c, r, 0 => by simp [recC]
  | none :: sh, c, r, 0 => by simp [recC]
  | some k :: sh, c, r, j + 1 => by
    simp only [recC, List.getElem?_cons_succ]
    rw [recC_get sh (c + 1) r j, show c + 1 + j = c + (j + 1) by omega]
  | none :: sh, c, r, j + 1 => by
    simp only [recC, List.getElem?_cons_succ]
    rw [recC_get sh (c + 1) r j, show c + 1 + j = c + (j + 1) by omega]
theorem setRec_get : ∀ (sh : List (Option IntKind)) (c : Nat) (r : List Int) (o : Nat) (v : Int) (j : Nat), o < sh.length → j < sh.length → (setRec sh c r o v).getD j 0 = if j = o then v else r.getD (c + j) 0
  | [], c, r, o, v, j, h, _ => by simp at h
  | x :: sh, c, r, 0, v, 0, h, _ => by simp [setRec]
  | x :: sh, c, r, 0, v, j + 1, h, hj => by
    simp only [List.length_cons] at hj
    have : j < sh.length := by omega
    show ((List.range sh.length).map fun j => r.getD (c + 1 + j) 0).getD j 0 = _
    rw [if_neg (by omega), show c + (j + 1) = c + 1 + j by omega]
    simp [List.getD_eq_getElem?_getD, this]
  | x :: sh, c, r, o + 1, v, 0, h, _ => by simp [setRec]
  | x :: sh, c, r, o + 1, v, j + 1, h, hj => by
    simp only [List.length_cons] at h hj
    have := setRec_get sh (c + 1) r o v j (by omega) (by omega)
    simp only [setRec, List.getD_cons_succ, this, Nat.add_right_cancel_iff]
    rw [show c + 1 + j = c + (j + 1) by omega]
/-- A record with one cell turned, laid out. -/
theorem recC_set {sh : List (Option IntKind)} {r : List Int} {o : Nat} {x : MV} {v : Int} (h : cellOf sh o x = some v) : recC sh 0 (setRec sh 0 r o v) = (recC sh 0 r).set o x ∧ o < sh.length ∧ MV.atom x = true ∧ x.cells = [x] := by
  unfold cellOf at h
  split at h
  · rename_i k w
    split at h
    · rename_i k' hk
      split at h
      · rename_i e
        injection h with h; subst h; subst e
        have ho : o < sh.length := (List.getElem?_eq_some_iff.1 hk).1
        refine ⟨?_, ho, rfl, rfl⟩
        apply List.ext_getElem?
        intro j
        rw [recC_get, List.getElem?_set, recC_get]
        simp only [Nat.zero_add, recC_len]
        by_cases hj : j < sh.length
        · rw [setRec_get sh 0 r o _ j ho hj]
          by_cases e : o = j
          · subst e
            simp only [hk, ho, if_true]
          · rw [if_neg e, if_neg (Ne.symm e), Nat.zero_add]
        · have : sh[j]? = none := by simp; omega
          rw [this, if_neg (by omega)]
      · simp at h
    · simp at h
  · simp at h
/-- A part of a record is a part of the row. -/
theorem partV_rec {t o i : Nat} {sh : List (Option IntKind)} {l : List (List Int)} {v : MV} (hi : i < l.length) (h : partV P t (recC sh 0 (l.getD i [])) o = some v) :
    partV P t (l.flatMap (recC sh 0)) (i * sh.length + o) = some v := by
  have hp := recs_part sh hi
  have hl : ((l.take i).flatMap (recC sh 0)).length = i * sh.length := by rw [recs_len]; congr 1; simp; omega
  have hr := recC_len sh 0 (l.getD i [])
  rw [hp]
  unfold partV at h ⊢
  cases ha : aggT P t with
  | none => simp [ha] at h
  | some b =>
    cases b with
    | true =>
      cases hs : szT P t with
      | none => simp [ha, hs] at h
      | some n =>
        simp only [ha, hs] at h ⊢
        split at h
        · rename_i hle
          rw [if_pos (by simp only [List.length_append, hl]; omega)]
          injection h with h
          rw [← h]
          congr 2
          rw [List.append_assoc, List.drop_append, List.drop_of_length_le (by omega), hl, Nat.add_sub_cancel_left, List.nil_append, List.drop_append_of_le_length (by omega), List.take_append_of_le_length (by rw [List.length_drop]; omega)]
        · simp at h
    | false =>
      simp only [ha] at h ⊢
      have hlt : o < (recC sh 0 (l.getD i [])).length := (List.getElem?_eq_some_iff.1 h).1
      rw [List.append_assoc, List.getElem?_append_right (by omega), hl, Nat.add_sub_cancel_left, List.getElem?_append_left hlt, h]
/-- A row of records with one cell turned. -/
theorem recs_set {o i : Nat} {sh : List (Option IntKind)} {l : List (List Int)} {x : MV} {v : Int} (hi : i < l.length) (h : cellOf sh o x = some v) :
    (l.set i (setRec sh 0 (l.getD i []) o v)).flatMap (recC sh 0) = (l.flatMap (recC sh 0)).take (i * sh.length + o) ++ [x] ++ (l.flatMap (recC sh 0)).drop (i * sh.length + o + [x].length) ∧ i * sh.length + o + 1 ≤ (l.flatMap (recC sh 0)).length := by
  obtain ⟨hr, ho, _, _⟩ := recC_set (r := l.getD i []) h
  have hp := recs_part sh hi
  have hl : ((l.take i).flatMap (recC sh 0)).length = i * sh.length := by rw [recs_len]; congr 1; simp; omega
  have hR := recC_len sh 0 (l.getD i [])
  have hp2 := recs_part sh (l := l.set i (setRec sh 0 (l.getD i []) o v)) (i := i) (by simpa using hi)
  have e1 : (l.set i (setRec sh 0 (l.getD i []) o v)).getD i [] = setRec sh 0 (l.getD i []) o v := by simp [List.getD_eq_getElem?_getD, hi]
  rw [e1, hr, List.take_set_of_le (Nat.le_refl i), List.drop_set_of_lt (Nat.lt_succ_self i)] at hp2
  rw [hp2, hp]
  generalize hA : (l.take i).flatMap (recC sh 0) = A at *
  generalize hB : (l.drop (i + 1)).flatMap (recC sh 0) = B at *
  generalize hRR : recC sh 0 (l.getD i []) = R at *
  constructor
  · rw [List.append_assoc, List.append_assoc A R B, List.take_append, List.drop_append, List.take_of_length_le (by omega), List.drop_of_length_le (by simp; omega), hl, Nat.add_sub_cancel_left]
    rw [show i * sh.length + o + [x].length - i * sh.length = o + 1 by simp; omega, List.take_append_of_le_length (by omega), List.drop_append_of_le_length (by omega)]
    have : R.set o x = R.take o ++ [x] ++ R.drop (o + 1) := by
      rw [List.set_eq_take_append_cons_drop, if_pos (by omega)]; simp
    rw [this]
    simp
  · simp only [List.length_append, hl]; omega
theorem RV.gs_inv {b o n s : Nat} {u : Value} (h : RV σ (.gs b o n s) u) : ∃ g c, σ b = some g ∧ u = .slice (some ⟨g, σ.off b + o, none⟩) n c ∧ n ≤ c ∧ o + c * s = σ.κ b := by simpa only [RV] using h
theorem pick_ok {t : Bool} {x y : MV} {u v : Value} (hx : RV σ x u) (hy : RV σ y v) : RV σ (pickV t x y) (if t = true then u else v) := by
  have gen : RV σ (match t with | true => x | false => y) (if t = true then u else v) := by cases t <;> simpa
  unfold pickV
  split
  · have e1 := hx.val_inv
    have e2 := hy.val_inv
    subst e1; subst e2
    cases t <;> simp [RV]
  · exact gen
theorem neqq_ok {op : BinOp} {r : Bool} {v : MV} (h : neqq op r = some v) : (op = .eql ∨ op = .neq) ∧ RV σ v (.bool (eqR op r)) := by
  unfold neqq at h
  split at h <;> simp at h
  · subst h; simp [RV, eqR]
  · subst h; simp [RV, eqR]
theorem intBin_ok {op : BinOp} {k : IntKind} {a b : Int} {v : MV} (h : intBin op k a b = some v) (x y : Operand) (t : Nat) (w : World) :
    ∃ u, ((do eqGuard op t x y (.int k a) (.int k b); binOp op t (.int k a) (.int k b) : Sem Value).run P w = .ok u w) ∧ RV σ v u := by
  unfold intBin at h
  simp only [Bool.cond_decide] at h
  split at h
  all_goals first
    | (injection h with h; subst h; exact ⟨_, by simp [eqGuard, binOp, Op.intArith, Op.intCmp]; rfl, by simp [RV]⟩)
    | (split at h
       · simp at h
       · rename_i hb
         injection h with h; subst h
         exact ⟨_, by simp [eqGuard, binOp, Op.intDiv, hb]; rfl, by simp [RV]⟩)
    | simp at h
theorem run_eq {t : Nat} {x y : Value} {r : Bool} {w : World} (h : ∀ n, (Op.equalIn (n + 1) t x y).run P w = .ok r w) : (Op.equal t x y).run P w = .ok r w := h 9999
theorem eqBoth {op : BinOp} {t : Nat} {x y : Operand} {a b : Value} {r : Bool} {w : World} (ho : op = .eql ∨ op = .neq) (hg : (eqGuard op t x y a b).run P w = .ok () w)
    (he : binOp .eql t a b = (do pure (.bool (← Op.equal t a b)))) (hn : binOp .neq t a b = (do pure (.bool (!(← Op.equal t a b))))) (h : ∀ n, (Op.equalIn (n + 1) t a b).run P w = .ok r w) :
    (do eqGuard op t x y a b; binOp op t a b : Sem Value).run P w = .ok (.bool (eqR op r)) w := by
  have h1 := run_eq h
  rcases ho with rfl | rfl
  · rw [Sem.run_bind, hg, Result.andThen_ok, he, Sem.run_bind, h1]; rfl
  · rw [Sem.run_bind, hg, Result.andThen_ok, hn, Sem.run_bind, h1]; rfl
theorem guard_ok {op : BinOp} {t : Nat} {x y : Operand} {a b : Value} {w : World} (h : match a, b with | .nilIface, .nilIface | .agg _, .agg _ => False | _, _ => True) : (eqGuard op t x y a b).run P w = .ok () w := by
  unfold eqGuard
  cases op <;> cases a <;> cases b <;> simp_all
theorem bin_ok {E : Eqs} (hE : EqOk P E) {op : BinOp} {t : Nat} {p q v : MV} (h : binV P E op t p q = some v) {a b : Value} (ha : RV σ p a) (hb : RV σ q b) (x y : Operand) (w : World) :
    ∃ u, ((do eqGuard op t x y a b; binOp op t a b : Sem Value).run P w = .ok u w) ∧ RV σ v u := by
  unfold binV at h
  split at h
  · have e1 := ha.val_inv
    have e2 := hb.val_inv
    subst e1; subst e2
    split at h
    · split at h
      · simp at h
      · rename_i hb0
        injection h with h; subst h
        exact ⟨_, by simp [eqGuard, binOp, Op.shift, hb0]; rfl, by simp [RV]⟩
    · split at h
      · simp at h
      · rename_i hb0
        injection h with h; subst h
        exact ⟨_, by simp [eqGuard, binOp, Op.shift, hb0]; rfl, by simp [RV]⟩
    · split at h
      · rename_i e
        subst e
        exact intBin_ok h x y t w
      · simp at h
  · split at h
    · rename_i hp
      have e1 := ha.val_inv
      have e2 := hb.val_inv
      subst e1; subst e2
      obtain ⟨ho, hr⟩ := neqq_ok (σ := σ) h
      have hu : P.underlying t = some .bool := by
        unfold boolT at hp; split at hp <;> simp_all
      refine ⟨_, ?_, hr⟩
      exact eqBoth ho (guard_ok trivial) rfl rfl (fun n => by simp [Op.equalIn, underlying, hu])
    · simp at h
  · split at h
    · rename_i hp
      obtain ⟨_, _, _, _, rfl⟩ := ha.fn_inv
      have e2 := hb.val_inv
      subst e2
      obtain ⟨ho, hr⟩ := neqq_ok (σ := σ) h
      obtain ⟨ps, rs, va, hu⟩ : ∃ ps rs va, P.underlying t = some (.func ps rs va) := by
        unfold funcT at hp; split at hp <;> simp_all
      refine ⟨_, ?_, hr⟩
      exact eqBoth ho (guard_ok trivial) rfl rfl (fun n => by simp [Op.equalIn, underlying, hu])
    · simp at h
  · split at h
    · rename_i hp
      have e1 := ha.val_inv
      have e2 := hb.val_inv
      subst e1; subst e2
      obtain ⟨ho, hr⟩ := neqq_ok (σ := σ) h
      obtain ⟨ps, rs, va, hu⟩ : ∃ ps rs va, P.underlying t = some (.func ps rs va) := by
        unfold funcT at hp; split at hp <;> simp_all
      refine ⟨_, ?_, hr⟩
      exact eqBoth ho (guard_ok trivial) rfl rfl (fun n => by simp [Op.equalIn, underlying, hu])
    · simp at h
  · split at h
    · rename_i hp
      obtain ⟨g, _, rfl⟩ := ha.ptr_inv
      have e2 := hb.val_inv
      subst e2
      obtain ⟨ho, hr⟩ := neqq_ok (σ := σ) h
      obtain ⟨el, hu⟩ : ∃ el, P.underlying t = some (.pointer el) := by
        unfold ptrT at hp; split at hp <;> simp_all
      refine ⟨_, ?_, hr⟩
      exact eqBoth ho (guard_ok trivial) rfl rfl (fun n => by simp [Op.equalIn, underlying, hu])
    · simp at h
  · split at h
    · rename_i hp
      have e1 := ha.val_inv
      have e2 := hb.val_inv
      subst e1; subst e2
      obtain ⟨ho, hr⟩ := neqq_ok (σ := σ) h
      obtain ⟨el, hu⟩ : ∃ el, P.underlying t = some (.pointer el) := by
        unfold ptrT at hp; split at hp <;> simp_all
      refine ⟨_, ?_, hr⟩
      exact eqBoth ho (guard_ok trivial) rfl rfl (fun n => by simp [Op.equalIn, underlying, hu])
    · simp at h
  · split at h
    · rename_i r hr0
      obtain ⟨us, h1, rfl⟩ := ha.agg_inv
      obtain ⟨vs, h2, rfl⟩ := hb.agg_inv
      obtain ⟨ho, hr⟩ := neqq_ok (σ := σ) h
      exact ⟨_, hE t _ _ r hr0 σ us vs w x y op h1 h2 ho, hr⟩
    · simp at h
  · simp at h
theorem evs_ok {tm : List MV} {a : Act} (h : RVs σ tm a.tmps.toList) (xs : Array Operand) : RVs σ (xs.toList.map (ev tm)) (xs.map a.eval).toList := by
  rw [Array.toList_map]
  exact RVs.map _ _ _ (fun x _ => ev_ok h x)
theorem run_newRow (t : Nat) (cs : Array Value) (w : World) : (newRow t cs).run P w = .ok ⟨w.heap.size, 0, none⟩ (w.alloc (.cells cs t (0, 0))) := rfl
theorem mapM_places {fs : Array Field} (h : fs.all (fun f => (szT P f.type).isSome) = true) (w : World) :
    (fs.mapM (fun f => do pure (f.offset, ← sizeOf f.type) : Field → Sem (Nat × Nat))).run P w = .ok (fs.map fun f => (f.offset, (szT P f.type).getD 0)) w := by
  have key : ∀ l : List Field, (∀ f ∈ l, (szT P f.type).isSome = true) → (l.mapM (fun f => do pure (f.offset, ← sizeOf f.type) : Field → Sem (Nat × Nat))).run P w = .ok (l.map fun f => (f.offset, (szT P f.type).getD 0)) w := by
    intro l
    induction l with
    | nil => intro _; rfl
    | cons f l ih =>
      intro hl
      obtain ⟨n, hn⟩ := Option.isSome_iff_exists.1 (hl f List.mem_cons_self)
      rw [List.mapM_cons, Sem.run_bind, Sem.run_bind, run_size hn w]
      simp only [Result.andThen_ok, Sem.run_pure, Sem.run_bind]
      rw [ih (fun g hg => hl g (List.mem_cons_of_mem _ hg))]
      simp [hn]
  have h' : ∀ f ∈ fs.toList, (szT P f.type).isSome = true := by
    intro f hf
    exact (Array.all_eq_true_iff_forall_mem.1 h) f (by simpa using hf)
  have k := key fs.toList h'
  rw [← Array.toList_mapM] at k
  rw [Sem.run_map] at k
  cases hr : (fs.mapM (fun f => do pure (f.offset, ← sizeOf f.type) : Field → Sem (Nat × Nat))).run P w with
  | ok x w' =>
    rw [hr] at k
    simp only [Result.andThen_ok] at k
    injection k with k1 k2
    subst k2
    congr 1
    apply Array.ext'
    rw [k1]; simp
  | halt x w' => rw [hr] at k; simp at k
theorem Reads.at {rd : Nat → Option Blk} {w : World} (hr : Reads σ w rd) {b : Nat} {k : Blk} (h : rd b = some k) {g : Nat} (hg : σ b = some g) : ∃ pre cs rest : List Value, w.heap[g]? = some (.cells (pre ++ (cs ++ rest)).toArray k.ty (0, 0)) ∧ RVs σ k.cells cs ∧ (cs ++ rest).length = σ.κ b ∧ pre.length = σ.off b ∧ (k.ro = false → pre = []) := by
  exact hr b k g h hg
/-- The own blocks begin where the machine's do. -/
theorem Reads.own {rd : Nat → Option Blk} {w : World} (hr : Reads σ w rd) {b : Nat} {k : Blk} (h : rd b = some k) (hro : k.ro = false) {g : Nat} (hg : σ b = some g) : σ.off b = 0 ∧ ∃ cs rest : List Value, w.heap[g]? = some (.cells (cs ++ rest).toArray k.ty (0, 0)) ∧ RVs σ k.cells cs ∧ (cs ++ rest).length = σ.κ b := by
  obtain ⟨pre, cs, rest, h1, h2, h3, h4, h5⟩ := hr b k g h hg
  have := h5 hro
  subst this
  exact ⟨by simpa using h4.symm, cs, rest, by simpa using h1, h2, h3⟩
theorem partV_pre {P : Program} {t o : Nat} {l : List MV} {v : MV} (pre : List Value) (h : partV P t l o = some v) : partV P t (pre.map .val ++ l) (pre.length + o) = some v := by
  unfold partV at h ⊢
  cases ha : aggT P t with
  | none => simp [ha] at h
  | some b =>
    cases b with
    | true =>
      cases hs : szT P t with
      | none => simp [ha, hs] at h
      | some n =>
        simp only [ha, hs] at h ⊢
        split at h
        · rename_i hle
          rw [if_pos (by simp only [List.length_append, List.length_map]; omega)]
          injection h with h
          rw [← h, List.drop_append, List.drop_of_length_le (by simp), List.length_map, Nat.add_sub_cancel_left, List.nil_append]
        · simp at h
    | false =>
      simp only [ha] at h ⊢
      rw [List.getElem?_append_right (by simp), List.length_map, Nat.add_sub_cancel_left, h]
theorem load_pre {t o : Nat} {l : List MV} {v : MV} (h : partV P t l o = some v) {pre us rest : List Value} (hl : RVs σ l us) {g ty : Nat} {w : World} (hg : w.heap[g]? = some (.cells (pre ++ (us ++ rest)).toArray ty (0, 0))) :
    ∃ u, (loadVar t ⟨g, pre.length + o, none⟩).run P w = .ok u w ∧ RV σ v u :=
  run_loadV (partV_pre pre h) ((RVs.vals pre).append hl) (by rw [hg, List.append_assoc])
theorem parts_ok {e : Operand → MV} {a : Act} (ps : Array (Nat × Operand)) (he : ∀ x, x ∈ (ps.toList.map (·.2)) → RV σ (e x) (a.eval x)) :
    (ps.toList.map fun p => (p.1, e p.2)).map (·.1) = (ps.map fun p => (p.1, a.eval p.2)).toList.map (·.1) ∧ RVs σ ((ps.toList.map fun p => (p.1, e p.2)).map (·.2)) ((ps.map fun p => (p.1, a.eval p.2)).toList.map (·.2)) := by
  constructor
  · simp
  · rw [Array.toList_map, List.map_map, List.map_map]
    exact RVs.map _ _ _ (fun p hp => he p.2 (List.mem_map.2 ⟨p, hp, rfl⟩))
theorem cell_of {w : World} {g ty : Nat} {pre cs rest : List Value} (hg : w.heap[g]? = some (.cells (pre ++ (cs ++ rest)).toArray ty (0, 0))) {o j q : Nat} {u : Value} (hq : q = pre.length + o) (h : (cs.drop o)[j]? = some u) : w.cell? ((⟨g, q, none⟩ : Addr).add j) = some u := by
  subst hq
  rw [addr_add]
  rw [List.getElem?_drop] at h
  have hlt := (List.getElem?_eq_some_iff.1 h).1
  have e : (pre ++ (cs ++ rest))[pre.length + o + j]? = some u := by
    rw [List.getElem?_append_right (by omega), show pre.length + o + j - pre.length = o + j by omega, List.getElem?_append_left hlt, h]
  simp only [World.cell?, hg, Option.isSome_none, Bool.false_eq_true, if_false, List.getElem?_toArray]
  exact e
theorem news_ok {rd : Nat → Option Blk} {w : World} {s m : Nat} {y : MV} {v : Value} {news : List MV} (h : newsV rd s y = some (m, news)) (hy : RV σ y v) (hr : Reads σ w rd) :
    ∃ a c us, v = .slice (some a) m c ∧ RVs σ news us ∧ us.length = m * s ∧ ∀ j u, us[j]? = some u → w.cell? (a.add j) = some u := by
  have key : ∀ b o g (k : Blk), rd b = some k → σ b = some g → o + m * s ≤ k.cells.length → ∃ us, RVs σ ((k.cells.drop o).take (m * s)) us ∧ us.length = m * s ∧ ∀ j u, us[j]? = some u → w.cell? ((⟨g, σ.off b + o, none⟩ : Addr).add j) = some u := by
    intro b o g k hk hg hle
    obtain ⟨pre, cs, rest, h1, h2, _, h4, _⟩ := hr.at hk hg
    have hl := h2.length
    refine ⟨(cs.drop o).take (m * s), (h2.drop o).take _, by simp; omega, fun j u hu => ?_⟩
    rw [List.getElem?_take] at hu
    split at hu
    · exact cell_of h1 (by rw [h4]) hu
    · simp at hu
  unfold newsV at h
  split at h
  · rename_i b o m' c
    split at h
    · rename_i k hk
      split at h
      · rename_i hle
        simp only [Option.some.injEq, Prod.mk.injEq] at h
        obtain ⟨rfl, rfl⟩ := h
        obtain ⟨g, hg, rfl⟩ := hy.sl_inv
        obtain ⟨us, h1, h2, h3⟩ := key b o g k hk hg hle
        exact ⟨_, _, us, rfl, h1, h2, h3⟩
      · simp at h
    · simp at h
  · rename_i b o m' c
    split at h
    · rename_i k hk
      split at h
      · rename_i hle
        simp only [Option.some.injEq, Prod.mk.injEq] at h
        obtain ⟨rfl, rfl⟩ := h
        obtain ⟨g, c', hg, rfl, _⟩ := hy.gs_inv
        obtain ⟨us, h1, h2, h3⟩ := key b o g k hk hg hle
        exact ⟨_, _, us, rfl, h1, h2, h3⟩
      · simp at h
    · simp at h
  · simp at h
/-- More behind a slice: where there is room, in its own block; else in a new one. -/
theorem app_ok {t ty : Nat} {rd : Nat → Option Blk} {w : World} {x y : MV} {u v : Value} {r : Res} (h : appV P t rd x y = some r) (hx : RV σ x u) (hy : RV σ y v) (hr : Reads σ w rd) :
    ∃ old cells el n sz, r = .app old cells el n sz ∧ ∃ us rest c, RVs σ cells us ∧ n ≤ c ∧ c * sz = (us ++ rest).length ∧
      ((Builtin.append_ #[t, t] ty #[u, v]).run P w = .ok (.slice (some ⟨w.heap.size, 0, none⟩) n c) (w.drew.alloc (.cells (us ++ rest).toArray el (0, 0))) ∨
       ∃ b k g, old = some b ∧ rd b = some k ∧ k.ro = false ∧ k.ty = el ∧ k.cells ≠ [] ∧ σ b = some g ∧ σ.κ b = (us ++ rest).length ∧ (Builtin.append_ #[t, t] ty #[u, v]).run P w = .ok (.slice (some ⟨g, 0, none⟩) n c) (w.setRow g (us ++ rest).toArray)) := by
  unfold appV at h
  split at h
  · rename_i el hu
    split at h
    · rename_i i hi
      split at h
      · rename_i m news z hn hz
        split at h
        · simp at h
        · rename_i hbad
          have hs0 : 0 < i.size := Nat.pos_of_ne_zero fun e => hbad (.inl e)
          have hzs : z.cells.size = i.size := Decidable.byContradiction fun e => hbad (.inr (.inl e))
          have hat : news.all MV.atom = true := by
            cases e : news.all MV.atom with
            | true => rfl
            | false => exact absurd (.inr (.inr (.inl e))) hbad
          have hm : m ≤ 2 ^ 24 := Nat.not_lt.1 fun e => hbad (.inr (.inr (.inr (.inl e))))
          have hby : i.bytes ≤ 2 ^ 20 := Nat.not_lt.1 fun e => hbad (.inr (.inr (.inr (.inr e))))
          obtain ⟨a, c0, us, rfl, hus, hul, hcell⟩ := news_ok hn hy hr
          have bytes : ∀ k, k ≤ 2 ^ 25 → k * i.bytes ≤ 140737488355328 := fun k hk => Nat.le_trans (Nat.mul_le_mul hk hby) (by decide)
          have grown : ∀ k old, (Builtin.zeroCells z.cells (grownCap w k old el - k)).toList.length = (grownCap w k old el - k) * i.size := by
            intro k old; rw [Array.length_toList, size_zeroCells, hzs]
          split at h
          · split at h
            · simp at h
            · rename_i hm0
              injection h with h; subst h
              have hxu := hx.val_inv
              subst hxu
              have hrun := run_append_nil (P := P) w t ty el i z hu hi hz a m c0 us hul hcell (by omega) (by omega) (Nat.le_trans (bytes m (by omega)) (by decide))
              refine ⟨_, _, _, _, _, rfl, us, (Builtin.zeroCells z.cells (grownCap w m 0 el - m)).toList, grownCap w m 0 el, hus, grownCap_ge w m 0 el, ?_, .inl ?_⟩
              · have := grownCap_ge w m 0 el
                rw [List.length_append, hul, grown, ← Nat.add_mul]
                congr 1; omega
              · rw [hrun]
                congr 3
                apply Array.ext'; simp
          · rename_i b o n c
            split at h
            · rename_i k hk
              split at h
              · rename_i hc
                obtain ⟨c1, c2, c3⟩ := hc
                injection h with h; subst h
                obtain ⟨g, hg, rfl⟩ := hx.sl_inv
                obtain ⟨pre, cs, rest, g1, g2, _, g4, _⟩ := hr.at hk hg
                have hl := g2.length
                have hrun := run_append_grow (P := P) w t ty el i z hu hi hz ⟨g, σ.off b + o, none⟩ n c ((cs.drop o).take (n * i.size)) (by simp; omega) (fun j u hj => by
                  rw [List.getElem?_take] at hj
                  split at hj
                  · exact cell_of g1 (by rw [g4]) hj
                  · simp at hj) a m c0 us hul hcell c1 (by omega) (growslice_fits c1 (bytes _ (by omega)))
                refine ⟨_, _, _, _, _, rfl, (cs.drop o).take (n * i.size) ++ us, (Builtin.zeroCells z.cells (grownCap w (n + m) c el - (n + m))).toList, grownCap w (n + m) c el, ((g2.drop o).take _).append hus, grownCap_ge w (n + m) c el, ?_, .inl ?_⟩
                · have := grownCap_ge w (n + m) c el
                  have hlt : ((cs.drop o).take (n * i.size)).length = n * i.size := by simp; omega
                  rw [List.length_append, List.length_append, hul, grown, hlt, ← Nat.add_mul, ← Nat.add_mul]
                  congr 1; omega
                · rw [hrun]
                  congr 3
                  apply Array.ext'; simp
              · simp at h
            · simp at h
          · rename_i b n s
            split at h
            · rename_i k hk
              split at h
              · rename_i hc
                obtain ⟨c0', rfl, c1, c2, c3, c4⟩ := hc
                injection h with h; subst h
                obtain ⟨g, c, hg, rfl, hnc, hcap⟩ := hx.gs_inv
                obtain ⟨hoff, cs, rest, g1, g2, g3⟩ := hr.own hk c0' hg
                have hl := g2.length
                rw [hoff, Nat.zero_add]
                have hlt : (cs.take (n * i.size)).length = n * i.size := by simp; omega
                by_cases hroom : n + m ≤ c
                · rw [c1] at g1
                  have hfit : n * i.size + us.length ≤ (cs ++ rest).toArray.size := by
                    rw [hul, List.size_toArray, g3, ← hcap, ← Nat.add_mul, Nat.zero_add]; exact Nat.mul_le_mul_right _ hroom
                  have hrun := run_append_room (P := P) w t ty el i hu hi g n c _ g1 a m c0 us hul hcell (atoms_one hat hus) hroom hfit
                  refine ⟨_, _, _, _, _, rfl, cs.take (n * i.size) ++ us, (cs ++ rest).drop (n * i.size + us.length), c, (g2.take _).append hus, hroom, ?_, .inr ⟨b, k, g, rfl, hk, c0', c1, by intro e; rw [e] at c4; exact c4 rfl, hg, ?_, ?_⟩⟩
                  · rw [List.length_append, List.length_append, hlt, List.length_drop, g3, ← hcap]
                    rw [List.size_toArray, g3, ← hcap] at hfit
                    omega
                  · rw [List.length_append, List.length_append, hlt, List.length_drop]
                    rw [List.size_toArray] at hfit
                    omega
                  · rw [hrun]
                    congr 2
                    rw [List.take_append_of_le_length (by omega)]
                · have c5 : c < n + m := by omega
                  have hrun := run_append_grow (P := P) w t ty el i z hu hi hz ⟨g, 0, none⟩ n c (cs.take (n * i.size)) hlt (fun j u hj => by
                    rw [List.getElem?_take] at hj
                    split at hj
                    · exact cell_of (pre := []) (o := 0) g1 rfl (by simpa using hj)
                    · simp at hj) a m c0 us hul hcell c5 (by omega) (growslice_fits c5 (bytes _ (by omega)))
                  refine ⟨_, _, _, _, _, rfl, cs.take (n * i.size) ++ us, (Builtin.zeroCells z.cells (grownCap w (n + m) c el - (n + m))).toList, grownCap w (n + m) c el, (g2.take _).append hus, grownCap_ge w (n + m) c el, ?_, .inl ?_⟩
                  · have := grownCap_ge w (n + m) c el
                    rw [List.length_append, List.length_append, hul, grown, hlt, ← Nat.add_mul, ← Nat.add_mul]
                    congr 1; omega
                  · rw [hrun]
                    congr 3
                    apply Array.ext'; simp
              · simp at h
            · simp at h
          · simp at h
      · simp at h
    · simp at h
  · simp at h
/-- Each operation does what the machine does. -/
theorem xop_ok {E : Eqs} (hE : EqOk P E) (o : Oper) (e : Operand → MV) (a : Act) (rd : Nat → Option Blk) (w : World) (r : Res)
    (h : xop P E o.op e rd = some r) (he : ∀ x, x ∈ o.op.operands.toList → RV σ (e x) (a.eval x)) (hr : Reads σ w rd) : ROk P σ w rd (execOp a.eval o) r := by
  obtain ⟨dst, op, type, pos, after, guard⟩ := o
  simp only at h he
  cases op with
  | move x => simp only [xop] at h; injection h with h; subst h; exact ⟨_, rfl, he x (by simp [Op.operands])⟩
  | assign x => simp only [xop] at h; injection h with h; subst h; exact ⟨_, rfl, he x (by simp [Op.operands])⟩
  | pick c x y =>
    simp only [xop] at h
    split at h
    · rename_i t hc
      injection h with h; subst h
      have h1 := he c (by simp [Op.operands])
      rw [hc] at h1
      have h2 := h1.val_inv
      refine ⟨if t = true then a.eval x else a.eval y, ?_, pick_ok (he x (by simp [Op.operands])) (he y (by simp [Op.operands]))⟩
      simp [execOp, h2, asBool]
    · simp at h
  | alloc t =>
    simp only [xop] at h
    split at h
    · rename_i z hz
      injection h with h; subst h
      obtain ⟨v, h1, h2⟩ := run_zero hz w
      refine ⟨z, RVs.vals z, ?_⟩
      have ez0 : v.cells = z.toArray := by rw [← h2]
      simp [execOp, Instr.alloc, h1, newVar, run_newRow, newV, ez0]
    · simp at h
  | box t x =>
    simp only [xop] at h
    injection h with h; subst h
    have h1 := (he x (by simp [Op.operands])).cells
    refine ⟨_, h1, ?_⟩
    simp [execOp, Instr.box, newVar, run_newRow, newV]
  | build t parts =>
    simp only [xop] at h
    split at h
    · simp at h
    · rename_i z hz
      obtain ⟨v, h1, h2⟩ := run_zero hz w
      have ez0 : v.cells = z.toArray := by rw [← h2]
      obtain ⟨p1, p2⟩ := parts_ok (e := e) (a := a) (σ := σ) parts (fun x hx => he x (by simpa [Op.operands] using hx))
      split at h
      · rename_i fs hu
        split at h
        · rename_i cs hf
          split at h
          · rename_i hall
            injection h with h; subst h
            obtain ⟨vs, g1, g2⟩ := fill_ok _ _ _ _ z cs hf (RVs.vals z) p1 p2
            refine ⟨.agg vs.toArray, ?_, by simp only [RV]; exact ⟨vs, g2, rfl⟩⟩
            have hp := mapM_places hall w
            have hpl : (fun i : Nat => (fs.map fun f => (f.offset, (szT P f.type).getD 0))[i]?) = (fun i : Nat => match fs[i]? with | some (f : Field) => (szT P f.type).map (fun n => (f.offset, n)) | none => none) := by
              funext i
              rw [Array.getElem?_map]
              cases hi : fs[i]? with
              | none => rfl
              | some f =>
                have := Array.all_eq_true_iff_forall_mem.1 hall f (Array.mem_of_getElem? hi)
                obtain ⟨n, hn⟩ := Option.isSome_iff_exists.1 this
                simp [hn]
            simp only [execOp, Instr.build, Sem.run_bind, h1, Result.andThen_ok, run_underlying hu w, hp, ez0]
            have g1' : Instr.fill (fun i : Nat => (fs.map fun f => (f.offset, (szT P f.type).getD 0))[i]?) z.toArray (parts.map fun p => (p.1, a.eval p.2)).toList = some vs.toArray := by
              rw [hpl]; exact g1
            rw [g1']
            rfl
          · simp at h
        · simp at h
      · rename_i n el hu
        split at h
        · rename_i n' hs
          split at h
          · rename_i cs hf
            injection h with h; subst h
            obtain ⟨vs, g1, g2⟩ := fill_ok _ _ _ _ z cs hf (RVs.vals z) p1 p2
            refine ⟨.agg vs.toArray, ?_, by simp only [RV]; exact ⟨vs, g2, rfl⟩⟩
            simp only [execOp, Instr.build, Sem.run_bind, h1, Result.andThen_ok, run_underlying hu w, run_size hs w, ez0]
            rw [g1]
            rfl
          · simp at h
        · simp at h
      · simp at h
  | buildSlice t len parts =>
    simp only [xop] at h
    split at h
    · rename_i el hu
      split at h
      · rename_i n z hs hz
        split at h
        · simp at h
        · rename_i hc
          obtain ⟨v, h1, h2⟩ := run_zero hz w
          have ez0 : v.cells = z.toArray := by rw [← h2]
          obtain ⟨p1, p2⟩ := parts_ok (e := e) (a := a) (σ := σ) parts (fun x hx => he x (by simpa [Op.operands] using hx))
          split at h
          · rename_i cs hf
            injection h with h; subst h
            have hz0 : RVs σ ((List.range (len * n)).map fun i => .val (z.getD (i % n) undef)) ((List.range (len * n)).map fun i => z.getD (i % n) undef) := RVs.map _ _ _ (fun i _ => by simp [RV])
            obtain ⟨vs, g1, g2⟩ := fill_ok _ _ _ _ _ cs hf hz0 p1 p2
            refine ⟨vs, g2, ?_⟩
            have c1 : ¬ len * n = 0 := fun hh => hc (.inl hh)
            have c2 : ¬ len * n > 2 ^ 24 := fun hh => hc (.inr (.inl hh))
            have c3 : z.length = n := Decidable.byContradiction fun hh => hc (.inr (.inr hh))
            have ez : ((Array.range (len * n)).map (fun i => z.toArray[i % z.toArray.size]!)) = ((List.range (len * n)).map fun i => z.getD (i % n) undef).toArray := by
              apply Array.ext'
              simp only [Array.toList_map, Array.toList_range, List.size_toArray, c3]
              apply List.map_congr_left
              intro i hi
              have hn : 0 < n := by
                rcases Nat.eq_zero_or_pos n with h0 | h0
                · subst h0; simp at c1
                · exact h0
              have hlt : i % n < z.length := by rw [c3]; exact Nat.mod_lt _ hn
              simp [List.getD_eq_getElem?_getD, hlt]
            simp only [execOp, Instr.buildSlice, Sem.run_bind, h1, Result.andThen_ok, run_underlying hu w, run_size hs w, ez0, if_neg c1, if_neg c2, Sem.run_pure]
            rw [ez, g1]
            simp [run_newRow, newV]
          · simp at h
      · simp at h
    · simp at h
  | load t x =>
    simp only [xop] at h
    split at h
    · rename_i b o hx
      split at h
      · rename_i k hk
        split at h
        · rename_i v hv
          injection h with h; subst h
          have h1 := he x (by simp [Op.operands])
          rw [hx] at h1
          obtain ⟨g, hg, e1⟩ := h1.ptr_inv
          obtain ⟨pre, cs, rest, h2, h3, _, hpre, _⟩ := hr.at hk hg
          obtain ⟨u, h4, h5⟩ := load_pre hv h3 h2
          rw [hpre] at h4
          refine ⟨u, ?_, h5⟩
          simp [execOp, Instr.loadAt, e1, Instr.sureAddr, h4]
        · simp at h
      · simp at h
    · rename_i b z i o hx
      split at h
      · rename_i sh l hk0
        obtain ⟨kb, hk, hkr⟩ := Option.bind_eq_some_iff.1 hk0
        cases hz : sh.length == z with
        | false => rw [hz] at h; simp at h
        | true =>
          cases hi : decide (i < l.length) with
          | false => rw [hz, hi] at h; simp at h
          | true =>
            rw [hz, hi] at h
            simp only [cond_true] at h
            have hz' : sh.length = z := by simpa using hz
            have hi' : i < l.length := by simpa using hi
            split at h
            · rename_i v hv
              injection h with h; subst h
              subst hz'
              have h1 := he x (by simp [Op.operands])
              rw [hx] at h1
              obtain ⟨g, hg, e1⟩ := h1.pe_inv
              obtain ⟨pre, cs, rest, h2, h3, _, hpre, _⟩ := hr.at hk hg
              rw [Blk.rec_cells hkr] at h3
              obtain ⟨u, h4, h5⟩ := load_pre (partV_rec hi' hv) h3 h2
              rw [hpre] at h4
              refine ⟨u, ?_, h5⟩
              simp [execOp, Instr.loadAt, e1, Instr.sureAddr, h4]
            · simp at h
      · simp at h
    · simp at h
  | store t x y =>
    simp only [xop] at h
    split at h
    · rename_i b o hx
      split at h
      · rename_i k hk
        split at h
        · rename_i hc
          obtain ⟨c0, c1, c2, c3⟩ := hc
          injection h with h; subst h
          have h1 := he x (by simp [Op.operands])
          rw [hx] at h1
          obtain ⟨g, hg, e1⟩ := h1.ptr_inv
          obtain ⟨hoff, cs, rest, h2, h3, _⟩ := hr.own hk c0 hg
          rw [hoff, Nat.zero_add] at e1
          have h4 := (he y (by simp [Op.operands])).cells
          have hl := h4.length
          have hl3 := h3.length
          refine ⟨g, cs ++ rest, _, k.ty, hg, h2, h4, ?_, k, hk, c2, rfl, rfl, c0, rfl⟩
          have hst := run_storeCells_at P g o k.ty (a.eval y).cells.toList 0 (cs ++ rest).toArray w h2 (by simp at hl ⊢; omega) (atoms_one c3 h4)
          have hsz := run_size c1 w
          have hsz' : (a.eval y).cells.size = (e y).cells.length := by rw [← hl]; simp
          simp only [execOp, Instr.storeAt, e1, Instr.sureAddr, storeVar, Sem.run_bind, Sem.run_pure, Result.andThen_ok, hsz]
          rw [if_neg (by rw [hsz']; simp)]
          simp only [Sem.run_bind, Sem.run_pure, Result.andThen_ok, hst, Nat.add_zero]
        · simp at h
      · simp at h
    · rename_i b z i o hx
      split at h
      · rename_i sh l ty hk
        split at h
        · rename_i v hs1 hv
          cases hz : sh.length == z with
          | false => rw [hz] at h; simp at h
          | true =>
            cases hi : decide (i < l.length) with
            | false => rw [hz, hi] at h; simp at h
            | true =>
              rw [hz, hi] at h
              simp only [cond_true] at h
              have hz' : sh.length = z := by simpa using hz
              have hi' : i < l.length := by simpa using hi
              injection h with h; subst h
              subst hz'
              obtain ⟨_, _, hat, hcx⟩ := recC_set (r := l.getD i []) hv
              obtain ⟨hset, hfit⟩ := recs_set hi' hv
              have h1 := he x (by simp [Op.operands])
              rw [hx] at h1
              obtain ⟨g, hg, e1⟩ := h1.pe_inv
              obtain ⟨hoff, cs, rest, h2, h3, _⟩ := hr.own hk rfl hg
              rw [hoff, Nat.zero_add] at e1
              have h4 := (he y (by simp [Op.operands])).cells
              rw [hcx] at h4
              have hl := h4.length
              have hl3 := h3.length
              rw [Blk.cells_recs] at hl3
              refine ⟨g, cs ++ rest, _, ty, hg, h2, h4, ?_, _, hk, hfit, hset, rfl, rfl, rfl⟩
              have hst := run_storeCells_at P g (i * sh.length + o) ty (a.eval y).cells.toList 0 (cs ++ rest).toArray w h2 (by simp at hl ⊢; omega) (atoms_one (by simp [hat]) h4)
              have hsz := run_size hs1 w
              have hsz' : (a.eval y).cells.size = 1 := by simpa using hl
              simp only [execOp, Instr.storeAt, e1, Instr.sureAddr, storeVar, Sem.run_bind, Sem.run_pure, Result.andThen_ok, hsz]
              rw [if_neg (by rw [hsz']; simp)]
              simp only [Sem.run_bind, Sem.run_pure, Result.andThen_ok, hst, Nat.add_zero]
        · simp at h
      · simp at h
    · simp at h
  | nilCheck x =>
    simp only [xop] at h
    have h1 := he x (by simp [Op.operands])
    split at h
    · rename_i b o hx
      injection h with h; subst h
      rw [hx] at h1
      obtain ⟨g, hg, e1⟩ := h1.ptr_inv
      exact ⟨_, by simp [execOp, e1]; rfl, by rw [e1] at h1; exact h1⟩
    · rename_i b z i o hx
      injection h with h; subst h
      rw [hx] at h1
      obtain ⟨g, hg, e1⟩ := h1.pe_inv
      exact ⟨_, by simp [execOp, e1]; rfl, by rw [e1] at h1; exact h1⟩
    · rename_i f p q hx
      injection h with h; subst h
      rw [hx] at h1
      obtain ⟨xs, ys, _, _, e1⟩ := h1.fn_inv
      exact ⟨_, by simp [execOp, e1]; rfl, by rw [e1] at h1; exact h1⟩
    · simp at h
  | binOp op t x y yt =>
    simp only [xop] at h
    split at h
    · rename_i v hv
      injection h with h; subst h
      obtain ⟨u, h1, h2⟩ := bin_ok (σ := σ) hE hv (he x (by simp [Op.operands])) (he y (by simp [Op.operands])) x y w
      refine ⟨u, ?_, h2⟩
      simp only [execOp]
      rw [Sem.run_bind, h1]; rfl
    · simp at h
  | unOp op t x =>
    simp only [xop] at h
    have h1 := he x (by simp [Op.operands])
    split at h
    · rename_i k n hx
      injection h with h; subst h
      rw [hx] at h1
      have e1 := h1.val_inv
      exact ⟨_, by simp [execOp, e1, Op.unary, Op.intArith]; rfl, by simp [RV]⟩
    · rename_i b hx
      injection h with h; subst h
      rw [hx] at h1
      have e1 := h1.val_inv
      exact ⟨_, by simp [execOp, e1, Op.unary]; rfl, by simp [RV]⟩
    · simp at h
  | convert src dst x =>
    simp only [xop] at h
    have h1 := he x (by simp [Op.operands])
    split at h
    · rename_i ds kd k' n hs hd hx
      injection h with h; subst h
      rw [hx] at h1
      have e1 := h1.val_inv
      refine ⟨.int kd (kd.wrap n), ?_, by simp [RV]⟩
      simp only [execOp, e1, convert, Sem.run_bind, run_underlying hs w, run_underlying hd w, Result.andThen_ok]
      cases ds <;> rfl
    · simp at h
  | makeFunc fn first cap =>
    cases fn with
    | func f =>
      simp only [xop] at h
      injection h with h; subst h
      refine ⟨_, rfl, ?_⟩
      simp only [RV]
      refine ⟨(first.map a.eval).toList, (cap.map a.eval).toList, ?_, ?_, by congr 1⟩
      · rw [Array.toList_map]
        exact RVs.map _ _ _ (fun x hx => he x (by simp [Op.operands]; exact .inl (by simpa using hx)))
      · rw [Array.toList_map]
        exact RVs.map _ _ _ (fun x hx => he x (by simp [Op.operands]; exact .inr (by simpa using hx)))
    | _ => simp [xop] at h
  | fieldAddr s x f =>
    simp only [xop] at h
    split at h
    · rename_i b o hx
      split at h
      · rename_i fs hu
        split at h
        · rename_i fd hf
          split at h
          · rename_i n hn
            split at h
            · simp at h
            · rename_i h0
              injection h with h; subst h
              have h1 := he x (by simp [Op.operands])
              rw [hx] at h1
              obtain ⟨g, hg, e1⟩ := h1.ptr_inv
              refine ⟨.pointer (some ⟨g, σ.off b + (o + fd.offset), none⟩), ?_, by simp only [RV]; exact ⟨g, hg, rfl⟩⟩
              simp [execOp, Instr.fieldAt, run_underlying hu w, hf, e1, Instr.sureAddr, fieldPlace, run_size hn w, h0, addr_add, Nat.add_assoc]
          · simp at h
        · simp at h
      · simp at h
    · rename_i b z i o hx
      split at h
      · rename_i fs hu
        split at h
        · rename_i fd hf
          split at h
          · rename_i n hn
            split at h
            · simp at h
            · rename_i h0
              injection h with h; subst h
              have h1 := he x (by simp [Op.operands])
              rw [hx] at h1
              obtain ⟨g, hg, e1⟩ := h1.pe_inv
              refine ⟨.pointer (some ⟨g, σ.off b + (i * z + (o + fd.offset)), none⟩), ?_, by simp only [RV]; exact ⟨g, hg, rfl⟩⟩
              simp [execOp, Instr.fieldAt, run_underlying hu w, hf, e1, Instr.sureAddr, fieldPlace, run_size hn w, h0, addr_add, Nat.add_assoc]
          · simp at h
        · simp at h
      · simp at h
    · simp at h
  | field s x f =>
    simp only [xop] at h
    split at h
    · rename_i l hx
      split at h
      · rename_i fs hu
        split at h
        · rename_i fd hf
          split at h
          · rename_i v hv
            injection h with h; subst h
            have h1 := he x (by simp [Op.operands])
            rw [hx] at h1
            obtain ⟨us, h2, e1⟩ := h1.agg_inv
            obtain ⟨u, h3, h4⟩ := run_part hv h2 w
            refine ⟨u, ?_, h4⟩
            simp [execOp, Instr.field, run_underlying hu w, hf, e1, asAgg, h3]
          · simp at h
        · simp at h
      · simp at h
    · simp at h
  | indexAddr t x i =>
    simp only [xop] at h
    split at h
    · rename_i k j hi
      have h1 := he i (by simp [Op.operands])
      rw [hi] at h1
      have e1 := h1.val_inv
      have h2 := he x (by simp [Op.operands])
      split at h
      · rename_i n el b o hu hx
        split at h
        · rename_i s hs
          split at h
          · rename_i hj
            injection h with h; subst h
            rw [hx] at h2
            obtain ⟨g, hg, e2⟩ := h2.ptr_inv
            refine ⟨.pointer (some ⟨g, σ.off b + (o + j.toNat * s), none⟩), ?_, by simp only [RV]; exact ⟨g, hg, rfl⟩⟩
            simp [execOp, Instr.indexAt, e1, e2, asIntOf, run_underlying hu w, Instr.sureAddr, run_size hs w, hj, addr_add, Nat.add_assoc]
          · simp at h
        · simp at h
      · rename_i el b o n c hu hx
        split at h
        · rename_i s hs
          split at h
          · rename_i hj
            injection h with h; subst h
            rw [hx] at h2
            obtain ⟨g, hg, e2⟩ := h2.sl_inv
            refine ⟨.pointer (some ⟨g, σ.off b + (o + j.toNat * s), none⟩), ?_, by simp only [RV]; exact ⟨g, hg, rfl⟩⟩
            simp [execOp, Instr.indexAt, e1, e2, asIntOf, run_underlying hu w, Instr.sureAddr, run_size hs w, hj, addr_add, Nat.add_assoc]
          · simp at h
        · simp at h
      · rename_i el b o n sz hu hx
        split at h
        · rename_i s hs
          split at h
          · rename_i hj
            injection h with h; subst h
            rw [hx] at h2
            obtain ⟨g, c, hg, e2, _⟩ := h2.gs_inv
            refine ⟨.pointer (some ⟨g, σ.off b + (o + j.toNat * s), none⟩), ?_, by simp only [RV]; exact ⟨g, hg, rfl⟩⟩
            simp [execOp, Instr.indexAt, e1, e2, asIntOf, run_underlying hu w, Instr.sureAddr, run_size hs w, hj, addr_add, Nat.add_assoc]
          · simp at h
        · simp at h
      · rename_i el b i0 n z hu hx
        split at h
        · rename_i s hs
          cases hz : s == z with
          | false => rw [hz] at h; simp at h
          | true =>
            cases hjd : decide (0 ≤ j ∧ j < n) with
            | false => rw [hz, hjd] at h; simp at h
            | true =>
              rw [hz, hjd] at h
              simp only [cond_true] at h
              have hz' : s = z := by simpa using hz
              have hj : 0 ≤ j ∧ j < n := of_decide_eq_true hjd
              injection h with h; subst h
              subst hz'
              rw [hx] at h2
              obtain ⟨A, c, e2, _, hn⟩ := h2.va_inv
              obtain ⟨g, hg, eA⟩ := hn (by omega)
              refine ⟨.pointer (some ⟨g, σ.off b + ((i0 + j.toNat) * s + 0), none⟩), ?_, by simp only [RV]; exact ⟨g, hg, rfl⟩⟩
              simp [execOp, Instr.indexAt, e1, e2, eA, asIntOf, run_underlying hu w, Instr.sureAddr, run_size hs w, hj, addr_add, Nat.add_mul, Nat.add_assoc]
        · simp at h
      · simp at h
    · simp at h
  | index t x i =>
    simp only [xop] at h
    split at h
    · rename_i k j hi
      have h1 := he i (by simp [Op.operands])
      rw [hi] at h1
      have e1 := h1.val_inv
      have h2 := he x (by simp [Op.operands])
      split at h
      · rename_i n el l hu hx
        split at h
        · rename_i s hs
          split at h
          · rename_i hj
            split at h
            · rename_i v hv
              injection h with h; subst h
              rw [hx] at h2
              obtain ⟨us, h3, e2⟩ := h2.agg_inv
              obtain ⟨u, h4, h5⟩ := run_part hv h3 w
              refine ⟨u, ?_, h5⟩
              simp [execOp, Instr.index, e1, e2, asIntOf, run_underlying hu w, run_size hs w, hj, h4]
            · simp at h
          · simp at h
        · simp at h
      · simp at h
    · simp at h
  | extract x i =>
    simp only [xop] at h
    split at h
    · rename_i l hx
      split at h
      · rename_i v hv
        injection h with h; subst h
        have h1 := he x (by simp [Op.operands])
        rw [hx] at h1
        obtain ⟨us, h2, e1⟩ := h1.tup_inv
        obtain ⟨u, h3, h4⟩ := RVs.get i h2 hv
        exact ⟨u, by simp [execOp, Instr.extract, e1, h3], h4⟩
      · simp at h
    · simp at h
  | call c =>
    obtain ⟨callee, cargs, argTypes⟩ := c
    simp only [xop] at h
    split at h
    · rename_i f
      split at h
      · rename_i g first cap hf
        injection h with h; subst h
        rintro ⟨fn, g1, g2, g3⟩
        have h1 := he f (by simp [Op.operands, Call.operands])
        rw [hf] at h1
        obtain ⟨xs, ys, h2, h3, e1⟩ := h1.fn_inv
        refine ⟨xs ++ (cargs.map a.eval).toList ++ ys, (h2.append ?_).append h3, ?_⟩
        · rw [Array.toList_map]
          exact RVs.map _ _ _ (fun x hx => he x (by simp [Op.operands, Call.operands]; exact .inr (by simpa using hx)))
        · have hcf : (callFunc g (xs.toArray ++ cargs.map a.eval ++ ys.toArray)).run P w = .ok (.enter g (xs.toArray ++ cargs.map a.eval ++ ys.toArray)) w := by
            have g2' : ¬ fn.name = "runtime.NumGoroutine" := by simpa using g2
            have g3' : ¬ fn.body = none := by intro hb; simp [hb] at g3
            simp [callFunc, program, Sem.run, g1, g2', g3']
          simp only [execOp, resolve, e1, Deferred.ofValue, Sem.run_bind, Sem.run_pure, Result.andThen_ok, invoke, hcf]
          congr 2
          apply Array.ext'
          simp
      · simp at h
    · split at h
      · rename_i t x ht hx
        split at h
        · rename_i el b o n c2 hu hxx
          injection h with h; subst h
          have h1 := he x (by simp [Op.operands, Call.operands]; exact Array.mem_of_getElem? hx)
          rw [hxx] at h1
          obtain ⟨g, hg, e1⟩ := h1.sl_inv
          refine ⟨.int .i64 n, ?_, by simp only [RV]⟩
          simp [execOp, resolve, invoke, builtin, Builtin.len_, ht, hx, e1, run_underlying hu w, goInt]
        · rename_i el b o n c2 hu hxx
          injection h with h; subst h
          have h1 := he x (by simp [Op.operands, Call.operands]; exact Array.mem_of_getElem? hx)
          rw [hxx] at h1
          obtain ⟨g, c, hg, e1, _⟩ := h1.gs_inv
          refine ⟨.int .i64 n, ?_, by simp only [RV]⟩
          simp [execOp, resolve, invoke, builtin, Builtin.len_, ht, hx, e1, run_underlying hu w, goInt]
        · rename_i el b i n z hu hxx
          injection h with h; subst h
          have h1 := he x (by simp [Op.operands, Call.operands]; exact Array.mem_of_getElem? hx)
          rw [hxx] at h1
          obtain ⟨A, c, e1, _⟩ := h1.va_inv
          refine ⟨.int .i64 n, ?_, by simp only [RV]⟩
          simp [execOp, resolve, invoke, builtin, Builtin.len_, ht, hx, e1, run_underlying hu w, goInt]
        · rename_i el xx n hu hxx
          injection h with h; subst h
          have h1 := he x (by simp [Op.operands, Call.operands]; exact Array.mem_of_getElem? hx)
          rw [hxx] at h1
          obtain ⟨_, A, c, e1⟩ := h1.xs_inv
          refine ⟨.int .i64 n, ?_, by simp only [RV]⟩
          simp [execOp, resolve, invoke, builtin, Builtin.len_, ht, hx, e1, run_underlying hu w, goInt]
        · rename_i el hu hxx
          injection h with h; subst h
          have h1 := he x (by simp [Op.operands, Call.operands]; exact Array.mem_of_getElem? hx)
          rw [hxx] at h1
          have h2 := h1
          simp only [RV] at h2
          obtain ⟨A, c, e1⟩ := h2
          refine ⟨.int .i64 0, ?_, by simp only [RV]⟩
          simp [execOp, resolve, invoke, builtin, Builtin.len_, ht, hx, e1, run_underlying hu w, goInt]
        · rename_i el n c2 hu hxx
          injection h with h; subst h
          have h1 := he x (by simp [Op.operands, Call.operands]; exact Array.mem_of_getElem? hx)
          rw [hxx] at h1
          have e1 := h1.val_inv
          refine ⟨.int .i64 n, ?_, by simp only [RV]⟩
          simp [execOp, resolve, invoke, builtin, Builtin.len_, ht, hx, e1, run_underlying hu w, goInt]
        · simp at h
      · simp at h
    · split at h
      · rename_i x y hx
        split at h
        · rename_i k a k' b hxa hyb
          injection h with h; subst h
          have eb : cargs = #[x, y] := by apply Array.ext'; simpa using hx
          subst eb
          have h1 := he x (by simp [Op.operands, Call.operands])
          have h2 := he y (by simp [Op.operands, Call.operands])
          rw [hxa] at h1
          rw [hyb] at h2
          refine ⟨.int k (if b < a then b else a), ?_, by simp only [RV]⟩
          simp [execOp, resolve, invoke, builtin, Builtin.min_, Builtin.min2, h1.val_inv, h2.val_inv]
        · simp at h
      · simp at h
    · split at h
      · rename_i x y hx
        split at h
        · rename_i k a k' b hxa hyb
          injection h with h; subst h
          have eb : cargs = #[x, y] := by apply Array.ext'; simpa using hx
          subst eb
          have h1 := he x (by simp [Op.operands, Call.operands])
          have h2 := he y (by simp [Op.operands, Call.operands])
          rw [hxa] at h1
          rw [hyb] at h2
          refine ⟨.int k (if a < b then b else a), ?_, by simp only [RV]⟩
          simp [execOp, resolve, invoke, builtin, Builtin.max_, Builtin.max2, h1.val_inv, h2.val_inv]
        · simp at h
      · simp at h
    · split at h
      · rename_i t t' x y ht hx
        split at h
        · rename_i htt
          subst htt
          have ea : argTypes = #[t, t] := by apply Array.ext'; simpa using ht
          have eb : cargs = #[x, y] := by apply Array.ext'; simpa using hx
          subst ea; subst eb
          obtain ⟨old, cells, el, n, sz, rfl, us, rest, c, g1, g2, g3, g4⟩ := app_ok (ty := type) h (he x (by simp [Op.operands, Call.operands])) (he y (by simp [Op.operands, Call.operands])) hr
          refine ⟨us, rest, c, g1, g2, g3, ?_⟩
          rcases g4 with g4 | ⟨b, k, g, k1, k2, k2', k3, k4, k5, k6, k7⟩
          · exact .inl (by simp [execOp, resolve, invoke, builtin, g4])
          · exact .inr ⟨b, k, g, k1, k2, k2', k3, k4, k5, k6, by simp [execOp, resolve, invoke, builtin, k7]⟩
        · simp at h
      · simp at h
    · simp at h
  | _ => simp [xop] at h
end
end Go.Proofs.Ytppklhfiajjhmaa.Y
