/- What is proved: structs and arrays of whole numbers and Bools, compared on the small memory, are compared as the machine does; and a called function's contract, made of a plain function. Conditions: none but those in each statement. -/
import Derived.Test.YtppklhfiajjhmaaZRasterShiftsY8
import Derived.Laws.StructEq
namespace Go.Proofs.Ytppklhfiajjhmaa.Y
open Go Go.RowKit
set_option linter.unusedVariables false
set_option linter.unusedSimpArgs false
def eqFs (P : Program) (R : Nat → MV → MV → Option Bool) (xs ys : List MV) : List Field → Option Bool
  | [] => some true
  | f :: r => match f.name == "_" with
    | true => eqFs P R xs ys r
    | false => match partV P f.type xs f.offset, partV P f.type ys f.offset with
      | some a, some b => match R f.type a b, eqFs P R xs ys r with
        | some p, some q => some (p && q)
        | _, _ => none
      | _, _ => none
def eqIs (P : Program) (R : Nat → MV → MV → Option Bool) (e c : Nat) (xs ys : List MV) : List Nat → Option Bool
  | [] => some true
  | i :: r => match partV P e xs (i * c), partV P e ys (i * c) with
    | some a, some b => match R e a b, eqIs P R e c xs ys r with
      | some p, some q => some (p && q)
      | _, _ => none
    | _, _ => none
def xeq (P : Program) : Nat → Nat → MV → MV → Option Bool
  | 0, _, _, _ => none
  | d + 1, t, x, y => match P.underlying t with
    | some .bool => match x, y with
      | .val (.bool a), .val (.bool b) => some (a == b)
      | _, _ => none
    | some (.int _) => match x, y with
      | .val (.int k a), .val (.int k' b) => if k = k' then some (a == b) else none
      | _, _ => none
    | some (.struct fs) => match x, y with
      | .agg xs, .agg ys => bif P.stoodInHeld t then none else eqFs P (xeq P d) xs ys fs.toList
      | _, _ => none
    | some (.array n e) => match x, y with
      | .agg xs, .agg ys => match szT P e with
        | some c => eqIs P (xeq P d) e c xs ys (List.range n)
        | none => none
      | _, _ => none
    | _ => none
def EX (P : Program) : Eqs := fun t xs ys => bif P.eqGuardType P.depth t then none else xeq P 6 t (.agg xs) (.agg ys)
section
variable {P : Program} {σ : Sg}
theorem eqFs_ok {R : Nat → MV → MV → Option Bool} {d : Nat} {w : World} (hR : ∀ t x y r u v, R t x y = some r → RV σ x u → RV σ y v → (Op.equalIn d t u v).run P w = .ok r w) {xs ys : List MV} {us vs : List Value} (hx : RVs σ xs us) (hy : RVs σ ys vs) :
    ∀ (fs : List Field) (r : Bool), eqFs P R xs ys fs = some r → (Op.eqFields d us.toArray vs.toArray fs).run P w = .ok r w
  | [], r, h => by simp [eqFs] at h; subst h; simp [Op.eqFields]
  | f :: fs, r, h => by
    simp only [eqFs] at h
    split at h
    · rename_i hn
      have : ¬ f.name ≠ "_" := by simpa using hn
      rw [Op.eqFields, if_neg this]
      exact eqFs_ok hR hx hy fs r h
    · rename_i hn
      have hn' : f.name ≠ "_" := by simpa using hn
      split at h
      · rename_i a b ha hb
        split at h
        · rename_i p q hp hq
          injection h with h; subst h
          obtain ⟨u, g1, g2⟩ := run_part ha hx w
          obtain ⟨v, g3, g4⟩ := run_part hb hy w
          have g5 := hR _ _ _ _ _ _ hp g2 g4
          have g6 := eqFs_ok hR hx hy fs q hq
          rw [Op.eqFields]
          simp only [if_pos hn', Sem.run_bind, g1, g3, g5, Result.andThen_ok]
          cases p
          · simp
          · simpa using g6
        · simp at h
      · simp at h
theorem eqIs_ok {R : Nat → MV → MV → Option Bool} {d e c : Nat} {w : World} (hR : ∀ t x y r u v, R t x y = some r → RV σ x u → RV σ y v → (Op.equalIn d t u v).run P w = .ok r w) {xs ys : List MV} {us vs : List Value} (hx : RVs σ xs us) (hy : RVs σ ys vs) :
    ∀ (is : List Nat) (r : Bool), eqIs P R e c xs ys is = some r → (Op.eqItems d e c us.toArray vs.toArray is).run P w = .ok r w
  | [], r, h => by simp [eqIs] at h; subst h; simp [Op.eqItems]
  | i :: is, r, h => by
    simp only [eqIs] at h
    split at h
    · rename_i a b ha hb
      split at h
      · rename_i p q hp hq
        injection h with h; subst h
        obtain ⟨u, g1, g2⟩ := run_part ha hx w
        obtain ⟨v, g3, g4⟩ := run_part hb hy w
        have g5 := hR _ _ _ _ _ _ hp g2 g4
        have g6 := eqIs_ok hR hx hy is q hq
        rw [Op.eqItems]
        simp only [Sem.run_bind, g1, g3, g5, Result.andThen_ok]
        cases p
        · simp
        · simpa using g6
      · simp at h
    · simp at h
theorem xeq_ok : ∀ (d t : Nat) (x y : MV) (r : Bool), xeq P d t x y = some r → ∀ (k : Nat) (u v : Value) (w : World), RV σ x u → RV σ y v → (Op.equalIn (d + k) t u v).run P w = .ok r w
  | 0, t, x, y, r, h => by simp [xeq] at h
  | d + 1, t, x, y, r, h => by
    intro k u v w hx hy
    have ih := fun w (t : Nat) (x y : MV) (r : Bool) (u v : Value) (h : xeq P d t x y = some r) (hx : RV σ x u) (hy : RV σ y v) => xeq_ok d t x y r h k u v w hx hy
    rw [show d + 1 + k = (d + k) + 1 by omega]
    simp only [xeq] at h
    split at h
    · rename_i hu
      split at h
      · have e1 := hx.val_inv
        have e2 := hy.val_inv
        subst e1; subst e2
        injection h with h; subst h
        simp [Op.equalIn, underlying, hu]
      · simp at h
    · rename_i ki hu
      split at h
      · split at h
        · rename_i e
          have e1 := hx.val_inv
          have e2 := hy.val_inv
          subst e; subst e1; subst e2
          injection h with h; subst h
          simp [Op.equalIn, underlying, hu]
        · simp at h
      · simp at h
    · rename_i fs hu
      split at h
      · rename_i xs ys
        cases hs : P.stoodInHeld t with
        | true => rw [hs] at h; simp at h
        | false =>
          rw [hs] at h
          simp only [cond_false] at h
          obtain ⟨us, h1, rfl⟩ := hx.agg_inv
          obtain ⟨vs, h2, rfl⟩ := hy.agg_inv
          have hf : P.fieldsOf t = fs := by simp [Program.fieldsOf, hu]
          rw [run_equalIn_struct (P := P) w (d + k) t us.toArray vs.toArray (by rw [hf]; exact hu) hs, hf]
          exact eqFs_ok (fun t x y r u v a b c => ih w t x y r u v a b c) h1 h2 fs.toList r h
      · simp at h
    · rename_i n e hu
      split at h
      · rename_i xs ys
        split at h
        · rename_i c hc
          obtain ⟨us, h1, rfl⟩ := hx.agg_inv
          obtain ⟨vs, h2, rfl⟩ := hy.agg_inv
          obtain ⟨i, hi⟩ : ∃ i, P.info? e = some i := by
            unfold szT at hc
            cases hi : P.info? e with
            | none => simp [hi] at hc
            | some i => exact ⟨i, rfl⟩
          have hce : P.cellsOf e = c := by
            unfold szT at hc
            simpa [Program.cellsOf, hi] using hc
          rw [run_equalIn_array (P := P) w (d + k) us.toArray vs.toArray hu hi, hce]
          exact eqIs_ok (fun t x y r u v a b c => ih w t x y r u v a b c) h1 h2 (List.range n) r h
        · simp at h
      · simp at h
    · simp at h
theorem EX_ok (P : Program) : EqOk P (EX P) := by
  intro t xs ys r h σ us vs w x y op hx hy ho
  unfold EX at h
  cases hg : P.eqGuardType P.depth t with
  | true => rw [hg] at h; simp at h
  | false =>
    rw [hg] at h
    simp only [cond_false] at h
    have hu : RV σ (.agg xs) (.agg us.toArray) := by simp only [RV]; exact ⟨us, hx, rfl⟩
    have hv : RV σ (.agg ys) (.agg vs.toArray) := by simp only [RV]; exact ⟨vs, hy, rfl⟩
    have key : (Op.equal t (.agg us.toArray) (.agg vs.toArray)).run P w = .ok r w := xeq_ok 6 t _ _ r h 9994 _ _ w hu hv
    have guard : (eqGuard op t x y (.agg us.toArray) (.agg vs.toArray)).run P w = .ok () w := by
      unfold eqGuard
      rcases ho with rfl | rfl <;> simp [program, Sem.run, hg]
    rcases ho with rfl | rfl
    · have e : binOp .eql t (.agg us.toArray) (.agg vs.toArray) = (do pure (.bool (← Op.equal t (.agg us.toArray) (.agg vs.toArray)))) := rfl
      rw [Sem.run_bind, guard, Result.andThen_ok, e, Sem.run_bind, key]; rfl
    · have e : binOp .neq t (.agg us.toArray) (.agg vs.toArray) = (do pure (.bool (!(← Op.equal t (.agg us.toArray) (.agg vs.toArray))))) := rfl
      rw [Sem.run_bind, guard, Result.andThen_ok, e, Sem.run_bind, key]; rfl
end
mutual
/-- A value without places of the own memory. -/
def pl : MV → Option Value
  | .val v => some v
  | .ptr _ _ => none
  | .sl _ _ _ _ => none
  | .gs _ _ _ _ => none
  | .fn f x y => match pls x, pls y with
    | some a, some b => some (.func (.func f) a.toArray b.toArray)
    | _, _ => none
  | .agg l => match pls l with
    | some a => some (.agg a.toArray)
    | none => none
  | .tup l => match pls l with
    | some a => some (.tuple a.toArray)
    | none => none
  | .pe _ _ _ _ => none
  | .va _ _ _ _ => none
  | .xs _ _ => none
  | .es => none
  | .any => none
def pls : List MV → Option (List Value)
  | [] => some []
  | x :: l => match pl x, pls l with
    | some u, some us => some (u :: us)
    | _, _ => none
end
mutual
theorem pl_ok {σ : Sg} : ∀ (x : MV) (u : Value), pl x = some u → ∀ v, RV σ x v ↔ v = u
  | .val v, u, h => by simp only [pl, Option.some.injEq] at h; subst h; intro v; simp only [RV]
  | .ptr b o, u, h => by simp [pl] at h
  | .sl b o n c, u, h => by simp [pl] at h
  | .gs b o n c, u, h => by simp [pl] at h
  | .fn f x y, u, h => by
    simp only [pl] at h
    split at h
    · rename_i a b ha hb
      injection h with h; subst h
      intro v
      simp only [RV]
      constructor
      · rintro ⟨xs, ys, h1, h2, rfl⟩
        rw [(pls_ok x a ha xs).1 h1, (pls_ok y b hb ys).1 h2]
      · rintro rfl
        exact ⟨a, b, (pls_ok x a ha a).2 rfl, (pls_ok y b hb b).2 rfl, rfl⟩
    · simp at h
  | .agg l, u, h => by
    simp only [pl] at h
    split at h
    · rename_i a ha
      injection h with h; subst h
      intro v
      simp only [RV]
      constructor
      · rintro ⟨xs, h1, rfl⟩
        rw [(pls_ok l a ha xs).1 h1]
      · rintro rfl
        exact ⟨a, (pls_ok l a ha a).2 rfl, rfl⟩
    · simp at h
  | .tup l, u, h => by
    simp only [pl] at h
    split at h
    · rename_i a ha
      injection h with h; subst h
      intro v
      simp only [RV]
      constructor
      · rintro ⟨xs, h1, rfl⟩
        rw [(pls_ok l a ha xs).1 h1]
      · rintro rfl
        exact ⟨a, (pls_ok l a ha a).2 rfl, rfl⟩
    · simp at h
  | .pe b s i o, u, h => by simp [pl] at h
  | .va b i n s, u, h => by simp [pl] at h
  | .xs x n, u, h => by simp [pl] at h
  | .es, u, h => by simp [pl] at h
  | .any, u, h => by simp [pl] at h
theorem pls_ok {σ : Sg} : ∀ (l : List MV) (us : List Value), pls l = some us → ∀ vs, RVs σ l vs ↔ vs = us
  | [], us, h => by simp only [pls, Option.some.injEq] at h; subst h; intro vs; simp only [RVs]
  | x :: l, us, h => by
    simp only [pls] at h
    split at h
    · rename_i u r hu hr
      injection h with h; subst h
      intro vs
      simp only [RVs]
      constructor
      · rintro ⟨u', r', rfl, h1, h2⟩
        rw [(pl_ok x u hu u').1 h1, (pls_ok l r hr r').1 h2]
      · rintro rfl
        exact ⟨u, r, rfl, (pl_ok x u hu u).2 rfl, (pls_ok l r hr r).2 rfl⟩
    · simp at h
end
/-- A contract out of a plain function. -/
abbrev toQ (F : List MV → Option MV) : List MV → (Nat → Option Blk) → KV → Option Out := fun args _ k => match F args with
  | some v => k v
  | none => none
abbrev fin : KM := fun v _ => some (v, [])
theorem Q_of {P : Program} {X : Bs → World → (Nat → Value) → Prop} {f : Nat} {F : List MV → Option MV} (h : ∀ args v, F args = some v → ∃ us u, pls args = some us ∧ pl v = some u ∧ ∀ w, Calls P f us.toArray w (fun e w' => e = .returned u ∧ Below w.heap.size w w')) : QOk P X f (toQ F) := by
  intro args rd k r hG
  unfold toQ at hG
  split at hG
  · rename_i v hv
    obtain ⟨us, u, h1, h2, h3⟩ := h args v hv
    refine ⟨v, hG, fun base w0 σ us' w _ _ _ hu _ => ?_⟩
    rw [(pls_ok args us h1 us').1 hu]
    refine Calls.mono (h3 w) ?_
    rintro e w' ⟨rfl, hb⟩
    exact ⟨u, rfl, (pl_ok v u h2 u).2 rfl, hb⟩
  · simp at hG
theorem call_of {P : Program} {E : Eqs} {C : Ctx} (hE : EqOk P E) (hC : COk P C) (hN : ∀ b w x, C.env b w x) (hm : P.follows .mixedOrders = true) {n f : Nat} {args : List MV} {us : List Value} {v : MV} {u : Value}
    (h1 : pls args = some us) (h2 : pl v = some u) (h : xfun P E C n f args [] fin = some (v, [])) (w : World) : Calls P f us.toArray w (fun e w' => e = .returned u ∧ Below w.heap.size w w') :=
  top_ok hE hC hN hm h (fun σ => (pls_ok args us h1 us).2 rfl) (fun σ u' hu => (pl_ok (σ := σ) v u h2 u').1 hu) w
theorem Q_of_x {P : Program} {X : Bs → World → (Nat → Value) → Prop} {E : Eqs} {C : Ctx} (hE : EqOk P E) (hC : COk P C) (hN : ∀ b w x, C.env b w x) (hm : P.follows .mixedOrders = true) {n f : Nat} {F : List MV → Option MV}
    (h : ∀ args v, F args = some v → (∃ us, pls args = some us) ∧ (∃ u, pl v = some u) ∧ xfun P E C n f args [] fin = some (v, [])) : QOk P X f (toQ F) := by
  refine Q_of (fun args v hv => ?_)
  obtain ⟨⟨us, h1⟩, ⟨u, h2⟩, h3⟩ := h args v hv
  exact ⟨us, u, h1, h2, fun w => call_of hE hC hN hm h1 h2 h3 w⟩
/-- Contexts, one function more. -/
def C0 : Ctx := ⟨fun _ => none, fun _ => none, fun _ => none, fun _ _ _ => True⟩
theorem C0_ok (P : Program) : COk P C0 := ⟨by intro f G h; simp [C0] at h, by intro f G h; simp [C0] at h, by intro f G h; simp [C0] at h⟩
def addQ (C : Ctx) (f : Nat) (F : List MV → Option MV) : Ctx := ⟨fun g => match g == f with | true => some (toQ F) | false => C.q g, C.i, C.n, C.env⟩
theorem addQ_ok {P : Program} {C : Ctx} (hC : COk P C) {f : Nat} {F : List MV → Option MV} (h : QOk P C.env f (toQ F)) (hf : FnOk P f) : COk P (addQ C f F) := by
  refine ⟨fun g G hg => ?_, hC.n, hC.i⟩
  simp only [addQ] at hg
  split at hg
  · rename_i e
    have e' : g = f := by simpa using e
    subst e'
    injection hg with hg; subst hg
    exact ⟨h, hf⟩
  · exact hC.q g G hg
def addI (C : Ctx) (f : Nat) (G : List MV → Mem → KM → Option Out) : Ctx := ⟨C.q, fun g => match g == f with | true => some G | false => C.i g, C.n, C.env⟩
theorem addI_ok {P : Program} {C : Ctx} (hC : COk P C) {f : Nat} {G : List MV → Mem → KM → Option Out} (h : IOk P C.env f G) (hf : FnOk P f) : COk P (addI C f G) := by
  refine ⟨hC.q, hC.n, fun g H hg => ?_⟩
  simp only [addI] at hg
  split at hg
  · rename_i e
    have e' : g = f := by simpa using e
    subst e'
    injection hg with hg; subst hg
    exact ⟨h, hf⟩
  · exact hC.i g H hg
def addR (C : Ctx) (f : Nat) (G : List MV → (Nat → Option Blk) → KV → Option Out) : Ctx := ⟨fun g => match g == f with | true => some G | false => C.q g, C.i, C.n, C.env⟩
theorem addR_ok {P : Program} {C : Ctx} (hC : COk P C) {f : Nat} {G : List MV → (Nat → Option Blk) → KV → Option Out} (h : QOk P C.env f G) (hf : FnOk P f) : COk P (addR C f G) := by
  refine ⟨fun g H hg => ?_, hC.n, hC.i⟩
  simp only [addR] at hg
  split at hg
  · rename_i e
    have e' : g = f := by simpa using e
    subst e'
    injection hg with hg; subst hg
    exact ⟨h, hf⟩
  · exact hC.q g H hg
def addN (C : Ctx) (f : Nat) (G : List MV → (Nat → Option Blk) → (Blk → (Nat → MV) → Option Out) → Option Out) : Ctx := ⟨C.q, C.i, fun g => match g == f with | true => some G | false => C.n g, C.env⟩
theorem addN_ok {P : Program} {C : Ctx} (hC : COk P C) {f : Nat} {G : List MV → (Nat → Option Blk) → (Blk → (Nat → MV) → Option Out) → Option Out} (h : NOk P C.env f G) (hf : FnOk P f) : COk P (addN C f G) := by
  refine ⟨hC.q, fun g H hg => ?_, hC.i⟩
  simp only [addN] at hg
  split at hg
  · rename_i e
    have e' : g = f := by simpa using e
    subst e'
    injection hg with hg; subst hg
    exact ⟨h, hf⟩
  · exact hC.n g H hg
/-- A function taken in whole. -/
abbrev inlG (P : Program) (E : Eqs) (C : Ctx) (n f : Nat) : List MV → Mem → KM → Option Out := fun args m k => xfun P E C n f args m k
theorem fnOk_of {P : Program} {f : Nat} {fn : Func} (h : P.funcs[f]? = some fn) (h1 : (fn.name == "runtime.NumGoroutine") = false) (h2 : fn.body.isNone = false) : FnOk P f := ⟨fn, h, h1, h2⟩
end Go.Proofs.Ytppklhfiajjhmaa.Y
