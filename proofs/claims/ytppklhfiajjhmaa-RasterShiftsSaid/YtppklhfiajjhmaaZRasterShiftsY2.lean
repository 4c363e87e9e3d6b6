/- What is proved: each operation, carried out on the small memory, does what the machine does. Conditions: none but those in each statement. -/
import Derived.Test.YtppklhfiajjhmaaZRasterShiftsY1
import Derived.Laws.CopyRow
import Derived.ChangeKeysEq
namespace Go.Proofs.Ytppklhfiajjhmaa.Y
open Go Go.RowKit
set_option linter.unusedVariables false
set_option linter.unusedSimpArgs false

/-- What an operation comes to. -/
inductive Res where
  | val (v : MV)
  | new (cells : List MV) (ty : Nat) (row : Option (Nat × Nat))
  | put (b o : Nat) (vs : List MV) (k : Blk)
  | call (f : Nat) (args : List MV)
  | app (old : Option Nat) (cells : List MV) (ty n s : Nat)

def szT (P : Program) (t : Nat) : Option Nat := (P.info? t).map (·.size)
def aggT (P : Program) (t : Nat) : Option Bool :=
  match P.underlying t with
  | some (.struct _) | some (.array _ _) => some true
  | some _ => some false
  | none => none
def partV (P : Program) (t : Nat) (l : List MV) (off : Nat) : Option MV :=
  match aggT P t with
  | some true => match szT P t with
    | some n => if off + n ≤ l.length then some (.agg ((l.drop off).take n)) else none
    | none => none
  | some false => l[off]?
  | none => none
def pickV (t : Bool) : MV → MV → MV
  | .val (.bool p), .val (.bool q) => .val (.bool (bif t then p else q))
  | x, y => match t with | true => x | false => y
def fillV (place : Nat → Option (Nat × Nat)) (cells : List MV) : List (Nat × MV) → Option (List MV)
  | [] => some cells
  | (i, v) :: rest =>
    match place i with
    | none => none
    | some (off, size) => if v.cells.length = size ∧ off + size ≤ cells.length then fillV place (cells.take off ++ v.cells ++ cells.drop (off + size)) rest else none
abbrev Eqs := Nat → List MV → List MV → Option Bool
def zeroCells (P : Program) (t : Nat) : Option (List Value) := ((P.info? t).bind (·.zero)).map (·.cells.toList)
def neqq (op : BinOp) (r : Bool) : Option MV :=
  match op with
  | .eql => some (.val (.bool r))
  | .neq => some (.val (.bool (!r)))
  | _ => none
def intBin (op : BinOp) (k : IntKind) (a b : Int) : Option MV :=
  match op with
  | .add => some (.val (.int k (k.wrap (a + b))))
  | .sub => some (.val (.int k (k.wrap (a - b))))
  | .mul => some (.val (.int k (k.wrap (a * b))))
  | .eql => some (.val (.bool (a == b)))
  | .neq => some (.val (.bool (a != b)))
  | .lss => some (.val (.bool (decide (a < b))))
  | .leq => some (.val (.bool (decide (a ≤ b))))
  | .gtr => some (.val (.bool (decide (a > b))))
  | .geq => some (.val (.bool (decide (a ≥ b))))
  | .quo => bif decide (b = 0) then none else some (.val (.int k (k.wrap (a.tdiv b))))
  | .rem => bif decide (b = 0) then none else some (.val (.int k (a.tmod b)))
  | _ => none
def boolT (P : Program) (t : Nat) : Bool := match P.underlying t with | some .bool => true | _ => false
def funcT (P : Program) (t : Nat) : Bool := match P.underlying t with | some (.func _ _ _) => true | _ => false
def ptrT (P : Program) (t : Nat) : Bool := match P.underlying t with | some (.pointer _) => true | _ => false
/-- A record with one cell turned. -/
def setRec : List (Option IntKind) → Nat → List Int → Nat → Int → List Int
  | [], _, _, _, _ => []
  | _ :: sh, c, r, 0, v => v :: ((List.range sh.length).map fun j => r.getD (c + 1 + j) 0)
  | _ :: sh, c, r, o + 1, v => r.getD c 0 :: setRec sh (c + 1) r o v
/-- What is stored in one cell of a record. -/
def cellOf (sh : List (Option IntKind)) (o : Nat) : MV → Option Int
  | .val (.int k v) => match sh[o]? with
    | some (some k') => if k = k' then some v else none
    | _ => none
  | _ => none
def binV (P : Program) (E : Eqs) (op : BinOp) (t : Nat) : MV → MV → Option MV
  | .val (.int k a), .val (.int k' b) => match op with
    | .shl => if b < 0 then none else some (.val (.int k (k.wrap (a * 2 ^ (min b.toNat k.bits)))))
    | .shr => if b < 0 then none else some (.val (.int k (a.fdiv (2 ^ (min b.toNat k.bits)))))
    | op => if k = k' then intBin op k a b else none
  | .val (.bool a), .val (.bool b) => if boolT P t then neqq op (a == b) else none
  | .fn f x y, .val .nilFunc => if funcT P t then neqq op false else none
  | .val .nilFunc, .val .nilFunc => if funcT P t then neqq op true else none
  | .ptr b o, .val (.pointer none) => if ptrT P t then neqq op false else none
  | .val (.pointer none), .val (.pointer none) => if ptrT P t then neqq op true else none
  | .agg xs, .agg ys => match E t xs ys with | some r => neqq op r | none => none
  | _, _ => none
/-- What is laid behind a slice. -/
def newsV (rd : Nat → Option Blk) (s : Nat) : MV → Option (Nat × List MV)
  | .sl b o m _ => match rd b with
    | some k => if o + m * s ≤ k.cells.length then some (m, (k.cells.drop o).take (m * s)) else none
    | none => none
  | .gs b o m _ => match rd b with
    | some k => if o + m * s ≤ k.cells.length then some (m, (k.cells.drop o).take (m * s)) else none
    | none => none
  | _ => none
def appV (P : Program) (t : Nat) (rd : Nat → Option Blk) (x y : MV) : Option Res :=
  match P.underlying t with
  | some (.slice el) => match P.info? el with
    | some i => match newsV rd i.size y, i.zero with
      | some (m, news), some z =>
        if i.size = 0 ∨ z.cells.size ≠ i.size ∨ news.all MV.atom = false ∨ 2 ^ 24 < m ∨ 2 ^ 20 < i.bytes then none else match x with
          | .val (.slice none 0 0) => if m = 0 then none else some (.app none news el m i.size)
          | .sl b o n c => match rd b with
            | some k => if c < n + m ∧ n ≤ 2 ^ 24 ∧ o + n * i.size ≤ k.cells.length then some (.app none ((k.cells.drop o).take (n * i.size) ++ news) el (n + m) i.size) else none
            | none => none
          | .gs b 0 n s => match rd b with
            | some k => if k.ro = false ∧ s = i.size ∧ k.ty = el ∧ n ≤ 2 ^ 24 ∧ n * i.size ≤ k.cells.length ∧ k.cells.length ≠ 0 then some (.app (some b) (k.cells.take (n * i.size) ++ news) el (n + m) i.size) else none
            | none => none
          | _ => none
      | _, _ => none
    | none => none
  | _ => none
def xop (P : Program) (E : Eqs) (op : Op) (e : Operand → MV) (rd : Nat → Option Blk) : Option Res :=
  match op with
  | .move x | .assign x => some (.val (e x))
  | .pick c a b => match e c with
    | .val (.bool t) => some (.val (pickV t (e a) (e b)))
    | _ => none
  | .alloc t => match zeroCells P t with
    | some z => some (.new (z.map .val) t none)
    | none => none
  | .box t x => some (.new (e x).cells t none)
  | .build t parts => match zeroCells P t with
    | none => none
    | some z => match P.underlying t with
      | some (.struct fs) => match fillV (fun i => match fs[i]? with | some f => (szT P f.type).map (fun n => (f.offset, n)) | none => none) (z.map .val) (parts.toList.map fun p => (p.1, e p.2)) with
        | some cs => if fs.all (fun f => (szT P f.type).isSome) then some (.val (.agg cs)) else none
        | none => none
      | some (.array _ el) => match szT P el with
        | some n => match fillV (fun i => some (i * n, n)) (z.map .val) (parts.toList.map fun p => (p.1, e p.2)) with
          | some cs => some (.val (.agg cs))
          | none => none
        | none => none
      | _ => none
  | .load t a => match e a with
    | .ptr b o => match rd b with
      | some k => match partV P t k.cells o with
        | some v => some (.val v)
        | none => none
      | none => none
    | .pe b s i o => match (rd b).bind Blk.rec? with
      | some (sh, l) => bif sh.length == s then (bif decide (i < l.length) then (match partV P t (recC sh 0 (l.getD i [])) o with
        | some v => some (.val v)
        | none => none) else none) else none
      | _ => none
    | _ => none
  | .store t a x => match e a with
    | .ptr b o => match rd b with
      | some k => if k.ro = false ∧ szT P t = some (e x).cells.length ∧ o + (e x).cells.length ≤ k.cells.length ∧ (e x).cells.all MV.atom = true then some (.put b o (e x).cells ⟨.lst (k.cells.take o ++ (e x).cells ++ k.cells.drop (o + (e x).cells.length)), k.ty⟩) else none
      | none => none
    | .pe b s i o => match rd b with
      | some ⟨.recs sh l, ty⟩ => match szT P t, cellOf sh o (e x) with
        | some 1, some v => bif sh.length == s then (bif decide (i < l.length) then some (.put b (i * s + o) [e x] ⟨.recs sh (l.set i (setRec sh 0 (l.getD i []) o v)), ty⟩) else none) else none
        | _, _ => none
      | _ => none
    | _ => none
  | .nilCheck x => match e x with
    | .ptr b o => some (.val (.ptr b o))
    | .pe b s i o => some (.val (.pe b s i o))
    | .fn f a c => some (.val (.fn f a c))
    | _ => none
  | .binOp op t x y _ => match binV P E op t (e x) (e y) with
    | some v => some (.val v)
    | none => none
  | .unOp op _ x => match op, e x with
    | .neg, .val (.int k n) => some (.val (.val (.int k (k.wrap (0 - n)))))
    | .not, .val (.bool b) => some (.val (.val (.bool (!b))))
    | _, _ => none
  | .convert src dst x => match P.underlying src, P.underlying dst, e x with
    | some _, some (.int k), .val (.int _ n) => some (.val (.val (.int k (k.wrap n))))
    | _, _, _ => none
  | .makeFunc (.func f) first cap => some (.val (.fn f (first.toList.map e) (cap.toList.map e)))
  | .fieldAddr s x f => match e x with
    | .ptr b o => match P.underlying s with
      | some (.struct fs) => match fs[f]? with
        | some fd => match szT P fd.type with
          | some n => if n = 0 then none else some (.val (.ptr b (o + fd.offset)))
          | none => none
        | none => none
      | _ => none
    | .pe b z i o => match P.underlying s with
      | some (.struct fs) => match fs[f]? with
        | some fd => match szT P fd.type with
          | some n => if n = 0 then none else some (.val (.pe b z i (o + fd.offset)))
          | none => none
        | none => none
      | _ => none
    | _ => none
  | .field s x f => match e x with
    | .agg l => match P.underlying s with
      | some (.struct fs) => match fs[f]? with
        | some fd => match partV P fd.type l fd.offset with
          | some v => some (.val v)
          | none => none
        | none => none
      | _ => none
    | _ => none
  | .indexAddr t x i => match e i with
    | .val (.int _ j) => match P.underlying t, e x with
      | some (.array n el), .ptr b o => match szT P el with
        | some s => if 0 ≤ j ∧ j < n then some (.val (.ptr b (o + j.toNat * s))) else none
        | none => none
      | some (.slice el), .sl b o n c => match szT P el with
        | some s => if 0 ≤ j ∧ j < n then some (.val (.ptr b (o + j.toNat * s))) else none
        | none => none
      | some (.slice el), .gs b o n _ => match szT P el with
        | some s => if 0 ≤ j ∧ j < n then some (.val (.ptr b (o + j.toNat * s))) else none
        | none => none
      | some (.slice el), .va b i0 n z => match szT P el with
        | some s => bif s == z then (bif decide (0 ≤ j ∧ j < n) then some (.val (.pe b z (i0 + j.toNat) 0)) else none) else none
        | none => none
      | _, _ => none
    | _ => none
  | .index t x i => match e i with
    | .val (.int _ j) => match P.underlying t, e x with
      | some (.array n el), .agg l => match szT P el with
        | some s => if 0 ≤ j ∧ j < n then (match partV P el l (j.toNat * s) with | some v => some (.val v) | none => none) else none
        | none => none
      | _, _ => none
    | _ => none
  | .extract x i => match e x with
    | .tup l => match l[i]? with
      | some v => some (.val v)
      | none => none
    | _ => none
  | .buildSlice t len parts => match P.underlying t with
    | some (.slice el) => match szT P el, zeroCells P el with
      | some n, some z => if len * n = 0 ∨ 2 ^ 24 < len * n ∨ z.length ≠ n then none else match fillV (fun i => some (i * n, n)) ((List.range (len * n)).map fun i => .val (z.getD (i % n) undef)) (parts.toList.map fun p => (p.1, e p.2)) with
        | some cs => some (.new cs el (some (len, len)))
        | none => none
      | _, _ => none
    | _ => none
  | .call c => match c.callee with
    | .value f => match e f with
      | .fn g first cap => some (.call g (first ++ c.args.toList.map e ++ cap))
      | _ => none
    | .builtin .len => match c.argTypes[0]?, c.args[0]? with
      | some t, some x => match P.underlying t, e x with
        | some (.slice _), .sl _ _ n _ => some (.val (.val (.int .i64 n)))
        | some (.slice _), .gs _ _ n _ => some (.val (.val (.int .i64 n)))
        | some (.slice _), .va _ _ n _ => some (.val (.val (.int .i64 n)))
        | some (.slice _), .xs _ n => some (.val (.val (.int .i64 n)))
        | some (.slice _), .es => some (.val (.val (.int .i64 0)))
        | some (.slice _), .val (.slice none n _) => some (.val (.val (.int .i64 n)))
        | _, _ => none
      | _, _ => none
    | .builtin .min => match c.args.toList with
      | [x, y] => match e x, e y with
        | .val (.int k a), .val (.int _ b) => some (.val (.val (.int k (if b < a then b else a))))
        | _, _ => none
      | _ => none
    | .builtin .max => match c.args.toList with
      | [x, y] => match e x, e y with
        | .val (.int k a), .val (.int _ b) => some (.val (.val (.int k (if a < b then b else a))))
        | _, _ => none
      | _ => none
    | .builtin .append => match c.argTypes.toList, c.args.toList with
      | [t, t'], [x, y] => if t = t' then appV P t rd (e x) (e y) else none
      | _, _ => none
    | _ => none
  | _ => none

/-- The same, what has to hold ahead of it. -/
def xopC (P : Program) (E : Eqs) (op : Op) (e : Operand → MV) (rd : Nat → Option Blk) : Bool × Option Res :=
  match op with
  | .load t a => match e a with
    | .pe b s i o => match (rd b).bind Blk.rec? with
      | some (sh, l) => (decide (i < l.length), bif sh.length == s then (match partV P t (recC sh 0 (l.getD i [])) o with
        | some v => some (.val v)
        | none => none) else none)
      | none => (true, none)
    | _ => (true, xop P E op e rd)
  | .store t a x => match e a with
    | .pe b s i o => match rd b with
      | some ⟨.recs sh l, ty⟩ => (decide (i < l.length), match szT P t, cellOf sh o (e x) with
        | some 1, some v => bif sh.length == s then some (.put b (i * s + o) [e x] ⟨.recs sh (l.set i (setRec sh 0 (l.getD i []) o v)), ty⟩) else none
        | _, _ => none)
      | _ => (true, none)
    | _ => (true, xop P E op e rd)
  | .indexAddr t x i => match e i with
    | .val (.int _ j) => match P.underlying t, e x with
      | some (.slice el), .va b i0 n z => match szT P el with
        | some s => (decide (0 ≤ j ∧ j < n), bif s == z then some (.val (.pe b z (i0 + j.toNat) 0)) else none)
        | none => (true, none)
      | _, _ => (true, xop P E op e rd)
    | _ => (true, xop P E op e rd)
  | .binOp op' t x y yt => match op', e x, e y with
    | .quo, .val (.int k a), .val (.int k' b) => (!decide (b = 0), if k = k' then some (.val (.val (.int k (k.wrap (a.tdiv b))))) else none)
    | .rem, .val (.int k a), .val (.int k' b) => (!decide (b = 0), if k = k' then some (.val (.val (.int k (a.tmod b)))) else none)
    | _, _, _ => (true, xop P E op e rd)
  | _ => (true, xop P E op e rd)
theorem xopC_eq (P : Program) (E : Eqs) (op : Op) (e : Operand → MV) (rd : Nat → Option Blk) : xop P E op e rd = bif (xopC P E op e rd).1 then (xopC P E op e rd).2 else none := by
  unfold xopC
  split
  · rename_i t a
    split
    · rename_i b s i o hea
      split
      · rename_i sh l hr
        simp only [xop, hea, hr]
        cases (sh.length == s) <;> cases decide (i < l.length) <;> rfl
      · rename_i hr
        simp only [xop, hea, hr]
        rfl
    · rfl
  · rename_i t a x
    split
    · rename_i b s i o hea
      split
      · rename_i sh l ty hr
        simp only [xop, hea, hr]
        split
        · cases (sh.length == s) <;> cases decide (i < l.length) <;> rfl
        · cases decide (i < l.length) <;> rfl
      · rename_i hr
        simp only [xop, hea]
        rfl
    · rfl
  · rename_i t x i
    split
    · rename_i k j hei
      split
      · rename_i el b i0 n z hu hex
        split
        · rename_i s hs
          simp only [xop, hei, hu, hex, hs]
          cases (s == z) <;> cases decide (0 ≤ j ∧ j < n) <;> rfl
        · rename_i hs
          simp only [xop, hei, hu, hex, hs]
          rfl
      · rfl
    · rfl
  · rename_i op' t x y yt
    split
    · rename_i k a k' b hx hy
      simp only [xop, hx, hy, binV, intBin]
      by_cases hk : k = k' <;> by_cases hb : b = 0 <;> simp [hk, hb]
    · rename_i k a k' b hx hy
      simp only [xop, hx, hy, binV, intBin]
      by_cases hk : k = k' <;> by_cases hb : b = 0 <;> simp [hk, hb]
    · rfl
  · rfl
theorem xopC_match {β : Type} (P : Program) (E : Eqs) (op : Op) (e : Operand → MV) (rd : Nat → Option Blk) (F : Option Res → Option β) (hF : F none = none) {r : β}
    (h : (match xopC P E op e rd with | (c, q) => bif c then F q else none) = some r) : F (xop P E op e rd) = some r := by
  rw [xopC_eq P E op e rd]
  generalize xopC P E op e rd = cq at h ⊢
  obtain ⟨c, q⟩ := cq
  cases c with
  | true => simpa using h
  | false => simp at h
def newV : Option (Nat × Nat) → Nat → Value
  | none, g => .pointer (some ⟨g, 0, none⟩)
  | some (n, c), g => .slice (some ⟨g, 0, none⟩) n c
def FnOk (P : Program) (f : Nat) : Prop := ∃ fn, P.funcs[f]? = some fn ∧ (fn.name == "runtime.NumGoroutine") = false ∧ fn.body.isNone = false
def ROk (P : Program) (σ : Sg) (w : World) (rd : Nat → Option Blk) (s : Sem Next) : Res → Prop
  | .val v => ∃ u, s.run P w = .ok (.value u) w ∧ RV σ v u
  | .new cells ty row => ∃ us, RVs σ cells us ∧ s.run P w = .ok (.value (newV row w.heap.size)) (w.alloc (.cells us.toArray ty (0, 0)))
  | .put b o vs k' => ∃ (g : Nat) (cs us : List Value) (t : Nat), σ b = some g ∧ w.heap[g]? = some (.cells cs.toArray t (0, 0)) ∧ RVs σ vs us ∧ s.run P w = .ok .skip (w.setRow g (cs.take o ++ us ++ cs.drop (o + us.length)).toArray) ∧ ∃ k, rd b = some k ∧ o + vs.length ≤ k.cells.length ∧ k'.cells = k.cells.take o ++ vs ++ k.cells.drop (o + vs.length) ∧ k'.ty = k.ty ∧ k.ro = false ∧ k'.ro = false
  | .call f args => FnOk P f → ∃ us, RVs σ args us ∧ s.run P w = .ok (.enter f us.toArray) w
  | .app old cells ty n sz => ∃ us rest c, RVs σ cells us ∧ n ≤ c ∧ c * sz = (us ++ rest).length ∧
      (s.run P w = .ok (.value (.slice (some ⟨w.heap.size, 0, none⟩) n c)) (w.drew.alloc (.cells (us ++ rest).toArray ty (0, 0))) ∨
       ∃ b k g, old = some b ∧ rd b = some k ∧ k.ro = false ∧ k.ty = ty ∧ k.cells ≠ [] ∧ σ b = some g ∧ σ.κ b = (us ++ rest).length ∧ s.run P w = .ok (.value (.slice (some ⟨g, 0, none⟩) n c)) (w.setRow g (us ++ rest).toArray))
def eqR (op : BinOp) (r : Bool) : Bool := match op with | .eql => r | _ => !r
/-- What is compared, compared as the machine does. -/
def EqOk (P : Program) (E : Eqs) : Prop := ∀ t xs ys r, E t xs ys = some r → ∀ σ us vs w x y op, RVs σ xs us → RVs σ ys vs → (op = .eql ∨ op = .neq) →
  (do eqGuard op t x y (.agg us.toArray) (.agg vs.toArray); binOp op t (.agg us.toArray) (.agg vs.toArray) : Sem Value).run P w = .ok (.bool (eqR op r)) w
def Reads (σ : Sg) (w : World) (rd : Nat → Option Blk) : Prop := ∀ b k (g : Nat), rd b = some k → σ b = some g → ∃ (pre cs rest : List Value), w.heap[g]? = some (.cells (pre ++ (cs ++ rest)).toArray k.ty (0, 0)) ∧ RVs σ k.cells cs ∧ (cs ++ rest).length = σ.κ b ∧ pre.length = σ.off b ∧ (k.ro = false → pre = [])

theorem addr_add (g o n : Nat) : (⟨g, o, none⟩ : Addr).add n = ⟨g, o + n, none⟩ := by unfold Addr.add; split <;> simp_all
theorem run_isAgg {P : Program} {t : Nat} {b : Bool} (h : aggT P t = some b) (w : World) : (isAgg t).run P w = .ok b w := by
  unfold aggT at h
  unfold isAgg
  cases hu : P.underlying t with
  | none => simp [hu] at h
  | some d =>
    rw [Sem.run_bind, run_underlying hu w]
    cases d <;> simp [hu] at h <;> subst h <;> rfl
theorem run_size {P : Program} {t n : Nat} (h : szT P t = some n) (w : World) : (sizeOf t).run P w = .ok n w := by
  unfold szT at h
  cases hi : P.info? t with
  | none => simp [hi] at h
  | some i => simp [hi] at h; simp [sizeOf, typeInfo, hi, h]
theorem run_zero {P : Program} {t : Nat} {z : List Value} (h : zeroCells P t = some z) (w : World) : ∃ v, (zeroValue t).run P w = .ok v w ∧ v.cells.toList = z := by
  unfold zeroCells at h
  cases hi : P.info? t with
  | none => simp [hi] at h
  | some i =>
    cases hz : i.zero with
    | none => simp [hi, hz] at h
    | some v => simp [hi, hz] at h; exact ⟨v, by simp [zeroValue, typeInfo, hi, hz], h⟩
section
variable {P : Program} {σ : Sg}
theorem run_part {t off : Nat} {l : List MV} {v : MV} (h : partV P t l off = some v) {us : List Value} (hl : RVs σ l us) (w : World) : ∃ u, (part t us.toArray off).run P w = .ok u w ∧ RV σ v u := by
  unfold partV at h
  cases ha : aggT P t with
  | none => simp [ha] at h
  | some b =>
    cases b with
    | true =>
      cases hs : szT P t with
      | none => simp [ha, hs] at h
      | some n =>
        simp only [ha, hs] at h
        split at h
        · rename_i hle
          injection h with h
          refine ⟨.agg (us.toArray.extract off (off + n)), ?_, ?_⟩
          · simp [part, run_isAgg ha w, run_size hs w]
          · subst h
            simp only [RV]
            refine ⟨(us.drop off).take n, (hl.drop off).take n, ?_⟩
            congr 1
            apply Array.ext'
            simp [List.take_drop, List.extract_eq_take_drop]
        · simp at h
    | false =>
      simp only [ha] at h
      obtain ⟨u, h1, h2⟩ := RVs.get off hl h
      exact ⟨u, by simp [part, run_isAgg ha w, h1], h2⟩
theorem run_loadV {t o : Nat} {l : List MV} {v : MV} (h : partV P t l o = some v) {us rest : List Value} (hl : RVs σ l us) {g ty : Nat} {w : World} (hg : w.heap[g]? = some (.cells (us ++ rest).toArray ty (0, 0))) :
    ∃ u, (loadVar t ⟨g, o, none⟩).run P w = .ok u w ∧ RV σ v u := by
  unfold partV at h
  cases ha : aggT P t with
  | none => simp [ha] at h
  | some b =>
    cases b with
    | true =>
      cases hs : szT P t with
      | none => simp [ha, hs] at h
      | some n =>
        simp only [ha, hs] at h
        split at h
        · rename_i hle
          injection h with h
          have hlen := hl.length
          have hn : ((us.drop o).take n).length = n := by simp; omega
          have hc := run_loadCells_list (P := P) w ⟨g, o, none⟩ ((us.drop o).take n) (fun j u hj => by
            rw [addr_add]
            simp only [World.cell?, hg]
            simp only [List.getElem?_take, List.getElem?_drop] at hj
            split at hj
            · have hlt := (List.getElem?_eq_some_iff.1 hj).1
              simp [List.getElem?_append_left hlt, hj]
            · simp at hj)
          rw [hn] at hc
          refine ⟨.agg ((us.drop o).take n).toArray, ?_, ?_⟩
          · simp [loadVar, run_isAgg ha w, run_size hs w, hc]
          · subst h
            simp only [RV]
            exact ⟨_, (hl.drop o).take n, rfl⟩
        · simp at h
    | false =>
      simp only [ha] at h
      obtain ⟨u, h1, h2⟩ := RVs.get o hl h
      have hlt := (List.getElem?_eq_some_iff.1 h1).1
      exact ⟨u, by simp [loadVar, run_isAgg ha w, World.cell?, hg, List.getElem?_append_left hlt, h1], h2⟩
theorem atoms_one {l : List MV} (h : l.all MV.atom = true) {us : List Value} (hl : RVs σ l us) : ∀ u ∈ us, u.oneCell' = true := by
  intro u hu
  obtain ⟨k, hk⟩ := List.getElem?_of_mem hu
  have hlt : k < l.length := by
    have := hl.length
    have := (List.getElem?_eq_some_iff.1 hk).1
    omega
  obtain ⟨u', h1, h2⟩ := RVs.get k hl (List.getElem?_eq_getElem hlt)
  rw [hk] at h1
  injection h1 with h1
  subst h1
  have := RV.atom h2 ((List.all_eq_true.1 h) _ (List.getElem_mem hlt))
  cases u <;> simp_all [Value.atom, Value.oneCell']
theorem foldl_put (cs : Array Value) (off : Nat) : ∀ (l : List Value) (k : Nat) (c : Array Value), (l.zipIdx k).foldl (fun a (x : Value × Nat) => a.setIfInBounds (off + x.2) x.1) c = ⟨(l.zipIdx k).foldl (fun a (x : Value × Nat) => a.set (off + x.2) x.1) c.toList⟩
  | [], k, c => by simp
  | v :: l, k, c => by
    simp only [List.zipIdx_cons, List.foldl_cons]
    rw [foldl_put cs off l (k + 1)]
    simp
theorem foldl_set (off : Nat) : ∀ (l : List Value) (k : Nat) (c : List Value), off + k + l.length ≤ c.length → (l.zipIdx k).foldl (fun a (x : Value × Nat) => a.set (off + x.2) x.1) c = c.take (off + k) ++ l ++ c.drop (off + k + l.length)
  | [], k, c, h => by simp
  | v :: l, k, c, h => by
    simp only [List.zipIdx_cons, List.foldl_cons]
    rw [foldl_set off l (k + 1) _ (by simp at h ⊢; omega)]
    have e := list_seg_step c (off + k) v l (by simp at h; omega)
    rw [show off + (k + 1) = off + k + 1 by omega]
    simpa using e
theorem fill_ok (place : Nat → Option (Nat × Nat)) : ∀ (ps : List (Nat × MV)) (qs : List (Nat × Value)) (cells : List MV) (us : List Value) (r : List MV),
    fillV place cells ps = some r → RVs σ cells us → ps.map (·.1) = qs.map (·.1) → RVs σ (ps.map (·.2)) (qs.map (·.2)) →
    ∃ vs, Instr.fill place us.toArray qs = some vs.toArray ∧ RVs σ r vs
  | [], [], cells, us, r, h, hc, _, _ => by simp [fillV] at h; subst h; exact ⟨us, by simp [Instr.fill], hc⟩
  | [], q :: qs, cells, us, r, h, hc, he, _ => by simp at he
  | p :: ps, [], cells, us, r, h, hc, he, _ => by simp at he
  | (i, v) :: ps, (j, u) :: qs, cells, us, r, h, hc, he, hv => by
    simp only [List.map_cons, List.cons.injEq] at he
    obtain ⟨rfl, he⟩ := he
    simp only [List.map_cons, RVs] at hv
    obtain ⟨u', r', e, h1, h2⟩ := hv
    simp only [List.cons.injEq] at e
    obtain ⟨rfl, rfl⟩ := e
    unfold fillV at h
    cases hp : place i with
    | none => simp [hp] at h
    | some q =>
      obtain ⟨off, size⟩ := q
      simp only [hp] at h
      split at h
      · rename_i hle
        obtain ⟨hsz, hle⟩ := hle
        have hcl := h1.cells
        have hlen := hcl.length
        have hlu := hc.length
        have hnew : RVs σ (cells.take off ++ v.cells ++ cells.drop (off + size)) (us.take off ++ u.cells.toList ++ us.drop (off + size)) := ((hc.take off).append hcl).append (hc.drop (off + size))
        obtain ⟨vs, g1, g2⟩ := fill_ok place ps qs _ _ r h hnew he h2
        refine ⟨vs, ?_, g2⟩
        have hus : u.cells.size = size := by rw [← hsz, ← hlen]; simp
        unfold Instr.fill
        simp only [hp]
        rw [if_neg (by simp [hus]; omega)]
        rw [← g1]
        congr 1
        apply Array.ext'
        have e1 := foldl_put us.toArray off u.cells.toList 0 us.toArray
        have e2 := foldl_set off u.cells.toList 0 us (by simp [hus]; omega)
        rw [← Array.foldl_toList, Array.toList_zipIdx]
        have e3 : (u.cells.toList.zipIdx).foldl (fun (cs : Array Value) (x : Value × Nat) => match x with | (c, j) => cs.setIfInBounds (off + j) c) us.toArray = (u.cells.toList.zipIdx 0).foldl (fun a (x : Value × Nat) => a.setIfInBounds (off + x.2) x.1) us.toArray := rfl
        rw [e3, e1, e2]
        simp [hus]
      · simp at h
end
end Go.Proofs.Ytppklhfiajjhmaa.Y
