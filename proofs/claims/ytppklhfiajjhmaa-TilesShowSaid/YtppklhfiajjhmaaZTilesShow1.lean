/- What is proved: texts of the law TilesShow, joined by program. Conditions: none but those in each statement. -/
import Derived.Test.YtppklhfiajjhmaaZTilesShow0
import Derived.Laws.CopyRow
import Derived.ChangeKeysEq
section
namespace Go.Proofs.Ytppklhfiajjhmaa.Y
open Go Go.RowKit
set_option linter.unusedVariables false
set_option linter.unusedSimpArgs false
inductive Res where
  | val (v:MV)
  | new (cells:List MV) (ty:Nat) (row:Option (Nat × Nat))
  | put (b o:Nat) (vs:List MV) (k:Blk)
  | call (f:Nat) (args:List MV)
  | app (old:Option Nat) (cells:List MV) (ty n s:Nat)
  | appR (old:Option Nat) (sh:List (Option IntKind)) (l:List (List Int)) (ty n s:Nat)
  | newR (sh:List (Option IntKind)) (l:List (List Int)) (ty n s:Nat) (gr:Bool)
def szT (P:Program) (t:Nat):Option Nat:=(P.info? t).map (·.size)
def aggT (P:Program) (t:Nat):Option Bool :=
  match P.underlying t with
  | some (.struct _) | some (.array _ _) => some true
  | some _ => some false
  | none => none
def partV (P:Program) (t:Nat) (l:List MV) (off:Nat):Option MV :=
  match aggT P t with
  | some true => match szT P t with
    | some n => if off + n ≤ l.length then some (.agg ((l.drop off).take n)) else none
    | none => none
  | some false => l[off]?
  | none => none
def pickV (t:Bool):MV → MV → MV
  | .val (.bool p),.val (.bool q) => .val (.bool (bif t then p else q))
  | x,y => match t with | true => x | false => y
def fillV (place:Nat → Option (Nat × Nat)) (cells:List MV):List (Nat × MV) → Option (List MV)
  | [] => some cells
  | (i,v) :: rest =>
    match place i with
    | none => none
    | some (off,size) => if v.solid = true ∧ v.cells.length = size ∧ off + size ≤ cells.length then fillV place (cells.take off ++ v.cells ++ cells.drop (off + size)) rest else none
abbrev Eqs:=Nat → List MV → List MV → Option Bool
def zeroCells (P:Program) (t:Nat):Option (List Value):=((P.info? t).bind (·.zero)).map (·.cells.toList)
def neqq (op:BinOp) (r:Bool):Option MV :=
  match op with
  | .eql => some (.val (.bool r))
  | .neq => some (.val (.bool (!r)))
  | _ => none
def intBin (op:BinOp) (k:IntKind) (a b:Int):Option MV :=
  match op with
  | .add => some (.val (.int k (k.wrap (a + b))))
  | .sub => some (.val (.int k (k.wrap (a - b))))
  | .mul => some (.val (.int k (k.wrap (a * b))))
  | .eql => some (.val (.bool (a == b)))
  | .neq => some (.val (.bool (a != b)))
  | .lss => some (.val (.bool (decide (a < b))))
  | .leq => some (.val (.bool (decide (a ≤ b))))
  | .gtr => some (.val (.bool (decide (a > b))))
  | .geq => some (.val (.bool (decide (a ≥ b))))
  | .quo => bif decide (b = 0) then none else some (.val (.int k (k.wrap (a.tdiv b))))
  | .rem => bif decide (b = 0) then none else some (.val (.int k (a.tmod b)))
  | _ => none
def boolT (P:Program) (t:Nat):Bool:=match P.underlying t with | some .bool => true | _ => false
def funcT (P:Program) (t:Nat):Bool:=match P.underlying t with | some (.func _ _ _) => true | _ => false
def ptrT (P:Program) (t:Nat):Bool:=match P.underlying t with | some (.pointer _) => true | _ => false
def setRec:List (Option IntKind) → Nat → List Int → Nat → Int → List Int
  | [],_,_,_,_ => []
  | _ :: sh,c,r,0,v => v :: ((List.range sh.length).map fun j => r.getD (c + 1 + j) 0)
  | _ :: sh,c,r,o + 1,v => r.getD c 0 :: setRec sh (c + 1) r o v
def cellOf (sh:List (Option IntKind)) (o:Nat):MV → Option Int
  | .val (.int k v) => match sh[o]? with
    | some (some k') => if k = k' then some v else none
    | _ => none
  | .val (.bool p) => match sh[o]? with
    | some none => some (bif p then 1 else 0)
    | _ => none
  | _ => none
def cellsOf (sh:List (Option IntKind)):Nat → List MV → Option (List Int)
  | _,[] => some []
  | o,x :: xs => match cellOf sh o x,cellsOf sh (o + 1) xs with
    | some v,some vs => some (v :: vs)
    | _,_ => none
def setRecs (sh:List (Option IntKind)) (r:List Int) (o:Nat) (vs:List Int):List Int :=
  (List.range sh.length).map fun j => if o ≤ j ∧ j < o + vs.length then vs.getD (j - o) 0 else r.getD j 0
def binV (P:Program) (E:Eqs) (op:BinOp) (t:Nat):MV → MV → Option MV
  | .val (.int k a),.val (.int k' b) => match op with
    | .shl => if b < 0 then none else some (.val (.int k (k.wrap (a * 2 ^ (min b.toNat k.bits)))))
    | .shr => if b < 0 then none else some (.val (.int k (a.fdiv (2 ^ (min b.toNat k.bits)))))
    | op => if k = k' then intBin op k a b else none
  | .val (.bool a),.val (.bool b) => if boolT P t then neqq op (a == b) else none
  | .fn f x y,.val .nilFunc => if funcT P t then neqq op false else none
  | .val .nilFunc,.val .nilFunc => if funcT P t then neqq op true else none
  | .ptr b o,.val (.pointer none) => if ptrT P t then neqq op false else none
  | .val (.pointer none),.val (.pointer none) => if ptrT P t then neqq op true else none
  | .agg xs,.agg ys => match E t xs ys with | some r => neqq op r | none => none
  | _,_ => none
def newsV (rd:Nat → Option Blk) (s:Nat):MV → Option (Nat × List MV)
  | .sl b o m _ => match rd b with
    | some k => if o + m * s ≤ k.cells.length then some (m,(k.cells.drop o).take (m * s)) else none
    | none => none
  | .gs b o m _ => match rd b with
    | some k => if o + m * s ≤ k.cells.length then some (m,(k.cells.drop o).take (m * s)) else none
    | none => none
  | _ => none
def appV (P:Program) (t:Nat) (rd:Nat → Option Blk) (x y:MV):Option Res :=
  match P.underlying t with
  | some (.slice el) => match P.info? el with
    | some i => match newsV rd i.size y,i.zero with
      | some (m,news),some z =>
        if i.size = 0 ∨ z.cells.size ≠ i.size ∨ news.all MV.atom = false ∨ 2 ^ 24 < m ∨ 2 ^ 20 < i.bytes then none else match x with
          | .val (.slice none 0 0) => if m = 0 then none else some (.app none news el m i.size)
          | .sl b o n c => match rd b with
            | some k => if c < n + m ∧ n ≤ 2 ^ 24 ∧ o + n * i.size ≤ k.cells.length then some (.app none ((k.cells.drop o).take (n * i.size) ++ news) el (n + m) i.size) else none
            | none => none
          | .gs b 0 n s => match rd b with
            | some k => if k.ro = false ∧ s = i.size ∧ k.ty = el ∧ n ≤ 2 ^ 24 ∧ n * i.size ≤ k.cells.length ∧ k.cells.length ≠ 0 then some (.app (some b) (k.cells.take (n * i.size) ++ news) el (n + m) i.size) else none
            | none => none
          | _ => none
      | _,_ => none
    | none => none
  | _ => none
def shapeOf:List Value → Option (List (Option IntKind))
  | [] => some []
  | .int k 0 :: l => match shapeOf l with
    | some sh => some (some k :: sh)
    | none => none
  | .bool false :: l => match shapeOf l with
    | some sh => some (none :: sh)
    | none => none
  | _ :: _ => none
def toRows (sh:List (Option IntKind)):Nat → List MV → Option (List (List Int))
  | 0,_ => some []
  | m + 1,cs => match cellsOf sh 0 (cs.take sh.length),toRows sh m (cs.drop sh.length) with
    | some r,some l => some (r :: l)
    | _,_ => none
def rowsN (sh:List (Option IntKind)) (rd:Nat → Option Blk) (s:Nat):MV → Bool × Option (Nat × List (List Int))
  | .sl b o m _ => (true,match rd b with
    | some k => if o + m * s ≤ k.cells.length then (match toRows sh m ((k.cells.drop o).take (m * s)) with
      | some l => some (m,l)
      | none => none) else none
    | none => none)
  | .va b 0 m z => match (rd b).bind Blk.rec? with
    | some (sh',l) => (l.length == m,bif decide (sh' = sh) && (z == s) then some (m,l) else none)
    | none => (true,none)
  | .gv b m z => match (rd b).bind Blk.rec? with
    | some (sh',l) => (l.length == m,bif decide (sh' = sh) && (z == s) then some (m,l) else none)
    | none => (true,none)
  | _ => (true,none)
def useR:MV → MV → Bool
  | .gv _ _ _,_ => true
  | .val (.slice none 0 0),.va _ _ _ _ => true
  | .val (.slice none 0 0),.gv _ _ _ => true
  | _,_ => false
def appR (P:Program) (t:Nat) (rd:Nat → Option Blk) (x y:MV):Bool × Option Res :=
  match P.underlying t with
  | some (.slice el) => match P.info? el,(zeroCells P el).bind shapeOf with
    | some i,some sh => match rowsN sh rd i.size y with
      | (c1,some (m,news)) =>
        if i.size = 0 ∨ sh.length ≠ i.size ∨ 2 ^ 20 < i.bytes then (true,none) else match x with
          | .val (.slice none 0 0) => (c1 && decide (m ≤ 16777216),some (.appR none sh news el m i.size))
          | .gv b n z => match rd b with
            | some ⟨.recs sh' l,ty⟩ => (c1 && (decide (m ≤ 16777216) && (decide (n ≤ 16777216) && (l.length == n))),bif decide (sh' = sh ∧ z = i.size ∧ ty = el) then some (.appR (some b) sh (l ++ news) el (n + m) i.size) else none)
            | _ => (true,none)
          | _ => (true,none)
      | (_,none) => (true,none)
    | _,_ => (true,none)
  | _ => (true,none)
def makeR (P:Program) (t:Nat) (l c:MV):Bool × Option Res :=
  match P.underlying t,l,c with
  | some (.slice el),.val (.int _ n),.val (.int _ n') => match P.info? el,zeroCells P el with
    | some i,some z => match shapeOf z with
      | some sh => if i.size = 0 ∨ sh.length ≠ i.size ∨ 2 ^ 20 < i.bytes then (true,none) else (decide (n = n' ∧ 0 ≤ n ∧ n ≤ 16777216),some (.newR sh (List.replicate n.toNat (List.replicate i.size 0)) el n.toNat i.size false))
      | none => (true,none)
    | _,_ => (true,none)
  | _,_,_ => (true,none)
def sliceV (P:Program) (t:Nat) (x:MV) (lo hi:Option MV):Bool × Option Res :=
  match P.underlying t with
  | some (.slice el) => match szT P el with
    | some s => match x,lo,hi with
      | .va b i n z,none,some (.val (.int _ h)) => (decide (0 ≤ h ∧ h ≤ n),bif s == z then some (.val (.va b i h.toNat z)) else none)
      | .va b i n z,some (.val (.int _ l)),none => (decide (0 ≤ l ∧ l ≤ n),bif s == z then some (.val (.va b (i + l.toNat) (n - l.toNat) z)) else none)
      | _,_,_ => (true,none)
    | none => (true,none)
  | some (.array n el) => match x,lo,hi with
    | .ptr b o,none,none => match szT P el with
      | some _ => (true,some (.val (.sl b o n n)))
      | none => (true,none)
    | _,_,_ => (true,none)
  | _ => (true,none)
def xop (P:Program) (E:Eqs) (op:Op) (e:Operand → MV) (rd:Nat → Option Blk):Option Res :=
  match op with
  | .move x | .assign x => some (.val (e x))
  | .pick c a b => match e c with
    | .val (.bool t) => some (.val (pickV t (e a) (e b)))
    | _ => none
  | .alloc t => match zeroCells P t with
    | some z => some (.new (z.map .val) t none)
    | none => none
  | .box t x => if (e x).solid = true then some (.new (e x).cells t none) else none
  | .build t parts => match zeroCells P t with
    | none => none
    | some z => match P.underlying t with
      | some (.struct fs) => match fillV (fun i => match fs[i]? with | some f => (szT P f.type).map (fun n => (f.offset,n)) | none => none) (z.map .val) (parts.toList.map fun p => (p.1,e p.2)) with
        | some cs => if fs.all (fun f => (szT P f.type).isSome) then some (.val (.agg cs)) else none
        | none => none
      | some (.array _ el) => match szT P el with
        | some n => match fillV (fun i => some (i * n,n)) (z.map .val) (parts.toList.map fun p => (p.1,e p.2)) with
          | some cs => some (.val (.agg cs))
          | none => none
        | none => none
      | _ => none
  | .load t a => match e a with
    | .ptr b o => match rd b with
      | some k => match partV P t k.cells o with
        | some v => some (.val v)
        | none => none
      | none => none
    | .pe b s i o => match (rd b).bind Blk.rec? with
      | some (sh,l) => bif sh.length == s then (bif decide (i < l.length) then (match partV P t (recC sh 0 (l.getD i [])) o with
        | some v => some (.val v)
        | none => none) else none) else none
      | _ => none
    | _ => none
  | .store t a x => match e a with
    | .ptr b o => match rd b with
      | some k => if k.ro = false ∧ szT P t = some (e x).cells.length ∧ o + (e x).cells.length ≤ k.cells.length ∧ (e x).cells.all MV.atom = true then some (.put b o (e x).cells ⟨.lst (k.cells.take o ++ (e x).cells ++ k.cells.drop (o + (e x).cells.length)),k.ty⟩) else none
      | none => none
    | .pe b s i o => match rd b with
      | some ⟨.recs sh l,ty⟩ => match szT P t,cellOf sh o (e x) with
        | some 1,some v => bif sh.length == s then (bif decide (i < l.length) then some (.put b (i * s + o) [e x] ⟨.recs sh (l.set i (setRec sh 0 (l.getD i []) o v)),ty⟩) else none) else none
        | some (n + 2),none => match cellsOf sh o (e x).cells with
          | some vs => bif sh.length == s && decide ((e x).cells.length = n + 2) then (bif decide (i < l.length) then some (.put b (i * s + o) (e x).cells ⟨.recs sh (l.set i (setRecs sh (l.getD i []) o vs)),ty⟩) else none) else none
          | none => none
        | _,_ => none
      | _ => none
    | _ => none
  | .nilCheck x => match e x with
    | .ptr b o => some (.val (.ptr b o))
    | .pe b s i o => some (.val (.pe b s i o))
    | .fn f a c => some (.val (.fn f a c))
    | _ => none
  | .binOp op t x y _ => match binV P E op t (e x) (e y) with
    | some v => some (.val v)
    | none => none
  | .unOp op _ x => match op,e x with
    | .neg,.val (.int k n) => some (.val (.val (.int k (k.wrap (0 - n)))))
    | .not,.val (.bool b) => some (.val (.val (.bool (!b))))
    | _,_ => none
  | .convert src dst x => match P.underlying src,P.underlying dst,e x with
    | some _,some (.int k),.val (.int _ n) => some (.val (.val (.int k (k.wrap n))))
    | _,_,_ => none
  | .makeFunc (.func f) first cap => some (.val (.fn f (first.toList.map e) (cap.toList.map e)))
  | .fieldAddr s x f => match e x with
    | .ptr b o => match P.underlying s with
      | some (.struct fs) => match fs[f]? with
        | some fd => match szT P fd.type with
          | some n => if n = 0 then none else some (.val (.ptr b (o + fd.offset)))
          | none => none
        | none => none
      | _ => none
    | .pe b z i o => match P.underlying s with
      | some (.struct fs) => match fs[f]? with
        | some fd => match szT P fd.type with
          | some n => if n = 0 then none else some (.val (.pe b z i (o + fd.offset)))
          | none => none
        | none => none
      | _ => none
    | _ => none
  | .field s x f => match e x with
    | .agg l => match P.underlying s with
      | some (.struct fs) => match fs[f]? with
        | some fd => match partV P fd.type l fd.offset with
          | some v => some (.val v)
          | none => none
        | none => none
      | _ => none
    | _ => none
  | .indexAddr t x i => match e i with
    | .val (.int _ j) => match P.underlying t,e x with
      | some (.array n el),.ptr b o => match szT P el with
        | some s => if 0 ≤ j ∧ j < n then some (.val (.ptr b (o + j.toNat * s))) else none
        | none => none
      | some (.slice el),.sl b o n c => match szT P el with
        | some s => if 0 ≤ j ∧ j < n then some (.val (.ptr b (o + j.toNat * s))) else none
        | none => none
      | some (.slice el),.gs b o n _ => match szT P el with
        | some s => if 0 ≤ j ∧ j < n then some (.val (.ptr b (o + j.toNat * s))) else none
        | none => none
      | some (.slice el),.va b i0 n z => match szT P el with
        | some s => bif s == z then (bif decide (0 ≤ j ∧ j < n) then some (.val (.pe b z (i0 + j.toNat) 0)) else none) else none
        | none => none
      | some (.slice el),.gv b n z => match szT P el with
        | some s => bif s == z then (bif decide (0 ≤ j ∧ j < n) then some (.val (.pe b z j.toNat 0)) else none) else none
        | none => none
      | _,_ => none
    | _ => none
  | .index t x i => match e i with
    | .val (.int _ j) => match P.underlying t,e x with
      | some (.array n el),.agg l => match szT P el with
        | some s => if 0 ≤ j ∧ j < n then (match partV P el l (j.toNat * s) with | some v => some (.val v) | none => none) else none
        | none => none
      | _,_ => none
    | _ => none
  | .extract x i => match e x with
    | .tup l => match l[i]? with
      | some v => some (.val v)
      | none => none
    | _ => none
  | .buildSlice t len parts => match P.underlying t with
    | some (.slice el) => match szT P el,zeroCells P el with
      | some n,some z => if len = 0 ∧ parts = #[] then (match shapeOf z with | some sh => if 0 < n ∧ sh.length = n then some (.newR sh [] el 0 n true) else none | none => none) else if len * n = 0 ∨ 2 ^ 24 < len * n ∨ z.length ≠ n then none else match fillV (fun i => some (i * n,n)) ((List.range (len * n)).map fun i => .val (z.getD (i % n) undef)) (parts.toList.map fun p => (p.1,e p.2)) with
        | some cs => some (.new cs el (some (len,len)))
        | none => none
      | _,_ => none
    | _ => none
  | .call c => match c.callee with
    | .value f => match e f with
      | .fn g first cap => some (.call g (first ++ c.args.toList.map e ++ cap))
      | _ => none
    | .builtin .len => match c.argTypes[0]?,c.args[0]? with
      | some t,some x => match P.underlying t,e x with
        | some (.slice _),.sl _ _ n _ => some (.val (.val (.int .i64 n)))
        | some (.slice _),.gs _ _ n _ => some (.val (.val (.int .i64 n)))
        | some (.slice _),.va _ _ n _ => some (.val (.val (.int .i64 n)))
        | some (.slice _),.gv _ n _ => some (.val (.val (.int .i64 n)))
        | some (.slice _),.xs _ n => some (.val (.val (.int .i64 n)))
        | some (.slice _),.es => some (.val (.val (.int .i64 0)))
        | some (.slice _),.val (.slice none n _) => some (.val (.val (.int .i64 n)))
        | _,_ => none
      | _,_ => none
    | .builtin .min => match c.args.toList with
      | [x,y] => match e x,e y with
        | .val (.int k a),.val (.int _ b) => some (.val (.val (.int k (if b < a then b else a))))
        | _,_ => none
      | _ => none
    | .builtin .max => match c.args.toList with
      | [x,y] => match e x,e y with
        | .val (.int k a),.val (.int _ b) => some (.val (.val (.int k (if a < b then b else a))))
        | _,_ => none
      | _ => none
    | .builtin .append => match c.argTypes.toList,c.args.toList with
      | [t,t'],[x,y] => if t = t' then (if useR (e x) (e y) = true then (match appR P t rd (e x) (e y) with | (c,r) => bif c then r else none) else appV P t rd (e x) (e y)) else none
      | _,_ => none
    | _ => none
  | .makeSlice t l c => match makeR P t (e l) (e c) with
    | (c,r) => bif c then r else none
  | .slice t x lo hi none => match sliceV P t (e x) (lo.map e) (hi.map e) with
    | (c,r) => bif c then r else none
  | _ => none
def xopC (P:Program) (E:Eqs) (op:Op) (e:Operand → MV) (rd:Nat → Option Blk):Bool × Option Res :=
  match op with
  | .load t a => match e a with
    | .pe b s i o => match (rd b).bind Blk.rec? with
      | some (sh,l) => (decide (i < l.length),bif sh.length == s then (match partV P t (recC sh 0 (l.getD i [])) o with
        | some v => some (.val v)
        | none => none) else none)
      | none => (true,none)
    | _ => (true,xop P E op e rd)
  | .store t a x => match e a with
    | .pe b s i o => match rd b with
      | some ⟨.recs sh l,ty⟩ => (decide (i < l.length),match szT P t,cellOf sh o (e x) with
        | some 1,some v => bif sh.length == s then some (.put b (i * s + o) [e x] ⟨.recs sh (l.set i (setRec sh 0 (l.getD i []) o v)),ty⟩) else none
        | some (n + 2),none => match cellsOf sh o (e x).cells with
          | some vs => bif sh.length == s && decide ((e x).cells.length = n + 2) then some (.put b (i * s + o) (e x).cells ⟨.recs sh (l.set i (setRecs sh (l.getD i []) o vs)),ty⟩) else none
          | none => none
        | _,_ => none)
      | _ => (true,none)
    | _ => (true,xop P E op e rd)
  | .indexAddr t x i => match e i with
    | .val (.int _ j) => match P.underlying t,e x with
      | some (.slice el),.va b i0 n z => match szT P el with
        | some s => (decide (0 ≤ j ∧ j < n),bif s == z then some (.val (.pe b z (i0 + j.toNat) 0)) else none)
        | none => (true,none)
      | some (.slice el),.gv b n z => match szT P el with
        | some s => (decide (0 ≤ j ∧ j < n),bif s == z then some (.val (.pe b z j.toNat 0)) else none)
        | none => (true,none)
      | _,_ => (true,xop P E op e rd)
    | _ => (true,xop P E op e rd)
  | .binOp op' t x y yt => match op',e x,e y with
    | .quo,.val (.int k a),.val (.int k' b) => (!decide (b = 0),if k = k' then some (.val (.val (.int k (k.wrap (a.tdiv b))))) else none)
    | .rem,.val (.int k a),.val (.int k' b) => (!decide (b = 0),if k = k' then some (.val (.val (.int k (a.tmod b)))) else none)
    | _,_,_ => (true,xop P E op e rd)
  | .call c => match c.callee,c.argTypes.toList,c.args.toList with
    | .builtin .append,[t,t'],[x,y] => if t = t' ∧ useR (e x) (e y) = true then appR P t rd (e x) (e y) else (true,xop P E op e rd)
    | _,_,_ => (true,xop P E op e rd)
  | .makeSlice t l c => makeR P t (e l) (e c)
  | .slice t x lo hi none => sliceV P t (e x) (lo.map e) (hi.map e)
  | _ => (true,xop P E op e rd)
theorem xopC_eq (P:Program) (E:Eqs) (op:Op) (e:Operand → MV) (rd:Nat → Option Blk):xop P E op e rd = bif (xopC P E op e rd).1 then (xopC P E op e rd).2 else none:=by
  unfold xopC
  split
  · rename_i t a
    split
    · rename_i b s i o hea
      split
      · rename_i sh l hr
        simp only [xop,hea,hr]
        cases (sh.length == s) <;> cases decide (i < l.length) <;> rfl
      · rename_i hr
        simp only [xop,hea,hr]
        rfl
    · rfl
  · rename_i t a x
    split
    · rename_i b s i o hea
      split
      · rename_i sh l ty hr
        simp only [xop,hea,hr]
        split
        · cases (sh.length == s) <;> cases decide (i < l.length) <;> rfl
        · split
          · rename_i n _ _ _ vs _
            cases (sh.length == s && decide ((e x).cells.length = n + 2)) <;> cases decide (i < l.length) <;> rfl
          · cases decide (i < l.length) <;> rfl
        · cases decide (i < l.length) <;> rfl
      · rename_i hr
        simp only [xop,hea]
        rfl
    · rfl
  · rename_i t x i
    split
    · rename_i k j hei
      split
      · rename_i el b i0 n z hu hex
        split
        · rename_i s hs
          simp only [xop,hei,hu,hex,hs]
          cases (s == z) <;> cases decide (0 ≤ j ∧ j < n) <;> rfl
        · rename_i hs
          simp only [xop,hei,hu,hex,hs]
          rfl
      · rename_i el b n z hu hex
        split
        · rename_i s hs
          simp only [xop,hei,hu,hex,hs]
          cases (s == z) <;> cases decide (0 ≤ j ∧ j < n) <;> rfl
        · rename_i hs
          simp only [xop,hei,hu,hex,hs]
          rfl
      · rfl
    · rfl
  · rename_i op' t x y yt
    split
    · rename_i k a k' b hx hy
      simp only [xop,hx,hy,binV,intBin]
      by_cases hk:k = k' <;> by_cases hb:b = 0 <;> simp [hk,hb]
    · rename_i k a k' b hx hy
      simp only [xop,hx,hy,binV,intBin]
      by_cases hk:k = k' <;> by_cases hb:b = 0 <;> simp [hk,hb]
    · rfl
  · split
    · rename_i t t' x y h1 h2 h3
      split
      · rename_i hh
        obtain ⟨rfl,hu⟩:=hh
        simp only [xop,h1,h2,h3,hu,if_true]
      · rfl
    · rfl
  · rfl
  · rfl
  · rfl
theorem xopC_match {β:Type} (P:Program) (E:Eqs) (op:Op) (e:Operand → MV) (rd:Nat → Option Blk) (F:Option Res → Option β) (hF:F none = none) {r:β}
    (h:(match xopC P E op e rd with | (c,q) => bif c then F q else none) = some r):F (xop P E op e rd) = some r:=by
  rw [xopC_eq P E op e rd]
  generalize xopC P E op e rd = cq at h ⊢
  obtain ⟨c,q⟩:=cq
  cases c with
  | true => simpa using h
  | false => simp at h
def newV:Option (Nat × Nat) → Nat → Value
  | none,g => .pointer (some ⟨g,0,none⟩)
  | some (n,c),g => .slice (some ⟨g,0,none⟩) n c
def FnOk (P : Program) (f : Nat) : Prop := ∃ fn, P.funcs[f]? = some fn ∧ (fn.name == "runtime.NumGoroutine") = false ∧ fn.body.isNone = false
def ROk (P:Program) (σ:Sg) (w:World) (rd:Nat → Option Blk) (s:Sem Next):Res → Prop
  | .val v => ∃ u,s.run P w = .ok (.value u) w ∧ RV σ v u
  | .new cells ty row => ∃ us,RVs σ cells us ∧ s.run P w = .ok (.value (newV row w.heap.size)) (w.alloc (.cells us.toArray ty (0,0)))
  | .put b o vs k' => ∃ (g:Nat) (cs us:List Value) (t:Nat),σ b = some g ∧ w.heap[g]? = some (.cells cs.toArray t (0,0)) ∧ RVs σ vs us ∧ s.run P w = .ok .skip (w.setRow g (cs.take o ++ us ++ cs.drop (o + us.length)).toArray) ∧ ∃ k,rd b = some k ∧ o + vs.length ≤ k.cells.length ∧ k'.cells = k.cells.take o ++ vs ++ k.cells.drop (o + vs.length) ∧ k'.ty = k.ty ∧ k.ro = false ∧ k'.ro = false
  | .call f args => FnOk P f → ∃ us,RVs σ args us ∧ s.run P w = .ok (.enter f us.toArray) w
  | .app old cells ty n sz => ∃ us rest c,RVs σ cells us ∧ n ≤ c ∧ c * sz = (us ++ rest).length ∧
      (s.run P w = .ok (.value (.slice (some ⟨w.heap.size,0,none⟩) n c)) (w.drew.alloc (.cells (us ++ rest).toArray ty (0,0))) ∨
       ∃ b k g,old = some b ∧ rd b = some k ∧ k.ro = false ∧ k.ty = ty ∧ k.cells ≠ [] ∧ σ b = some g ∧ σ.κ b = (us ++ rest).length ∧ s.run P w = .ok (.value (.slice (some ⟨g,0,none⟩) n c)) (w.setRow g (us ++ rest).toArray))
  | .appR old sh l ty n sz => ∃ us rest c,RVs σ (l.flatMap (recC sh 0)) us ∧ n ≤ c ∧ c * sz = (us ++ rest).length ∧ n = l.length ∧ sz = sh.length ∧ 0 < sz ∧
      ((0 < n ∧ s.run P w = .ok (.value (.slice (some ⟨w.heap.size,0,none⟩) n c)) (w.drew.alloc (.cells (us ++ rest).toArray ty (0,0)))) ∨
       (0 < n ∧ ∃ b k g,old = some b ∧ rd b = some k ∧ k.ro = false ∧ k.ty = ty ∧ k.cells ≠ [] ∧ σ b = some g ∧ σ.κ b = (us ++ rest).length ∧ s.run P w = .ok (.value (.slice (some ⟨g,0,none⟩) n c)) (w.setRow g (us ++ rest).toArray)) ∨
       (n = 0 ∧ ∃ A,s.run P w = .ok (.value (.slice A 0 0)) w))
  | .newR sh l ty n sz gr => ∃ us,RVs σ (l.flatMap (recC sh 0)) us ∧ n = l.length ∧ sz = sh.length ∧ 0 < sz ∧ s.run P w = .ok (.value (.slice (some ⟨w.heap.size,0,none⟩) n n)) (w.alloc (.cells us.toArray ty (0,0)))
def eqR (op:BinOp) (r:Bool):Bool:=match op with | .eql => r | _ => !r
def EqOk (P:Program) (E:Eqs):Prop:=∀ t xs ys r,E t xs ys = some r → ∀ σ us vs w x y op,RVs σ xs us → RVs σ ys vs → (op = .eql ∨ op = .neq) →
  (do eqGuard op t x y (.agg us.toArray) (.agg vs.toArray); binOp op t (.agg us.toArray) (.agg vs.toArray):Sem Value).run P w = .ok (.bool (eqR op r)) w
def Reads (σ:Sg) (w:World) (rd:Nat → Option Blk):Prop:=∀ b k (g:Nat),rd b = some k → σ b = some g → ∃ (pre cs rest:List Value),AtH w g k (pre ++ (cs ++ rest)) ∧ RVs σ k.cells cs ∧ (cs ++ rest).length = σ.κ b ∧ pre.length = σ.off b ∧ (k.ro = false → pre = [])
theorem addr_add (g o n:Nat):(⟨g,o,none⟩:Addr).add n = ⟨g,o + n,none⟩:=by unfold Addr.add; split <;> simp_all
theorem run_isAgg {P:Program} {t:Nat} {b:Bool} (h:aggT P t = some b) (w:World):(isAgg t).run P w = .ok b w:=by
  unfold aggT at h
  unfold isAgg
  cases hu:P.underlying t with
  | none => simp [hu] at h
  | some d =>
    rw [Sem.run_bind,run_underlying hu w]
    cases d <;> simp [hu] at h <;> subst h <;> rfl
theorem run_size {P:Program} {t n:Nat} (h:szT P t = some n) (w:World):(sizeOf t).run P w = .ok n w:=by
  unfold szT at h
  cases hi:P.info? t with
  | none => simp [hi] at h
  | some i => simp [hi] at h; simp [sizeOf,typeInfo,hi,h]
theorem run_zero {P:Program} {t:Nat} {z:List Value} (h:zeroCells P t = some z) (w:World):∃ v,(zeroValue t).run P w = .ok v w ∧ v.cells.toList = z:=by
  unfold zeroCells at h
  cases hi:P.info? t with
  | none => simp [hi] at h
  | some i =>
    cases hz:i.zero with
    | none => simp [hi,hz] at h
    | some v => simp [hi,hz] at h; exact ⟨v,by simp [zeroValue,typeInfo,hi,hz],h⟩
section
variable {P:Program} {σ:Sg}
theorem run_part {t off:Nat} {l:List MV} {v:MV} (h:partV P t l off = some v) {us:List Value} (hl:RVs σ l us) (w:World):∃ u,(part t us.toArray off).run P w = .ok u w ∧ RV σ v u:=by
  unfold partV at h
  cases ha:aggT P t with
  | none => simp [ha] at h
  | some b =>
    cases b with
    | true =>
      cases hs:szT P t with
      | none => simp [ha,hs] at h
      | some n =>
        simp only [ha,hs] at h
        split at h
        · rename_i hle
          injection h with h
          refine ⟨.agg (us.toArray.extract off (off + n)),?_,?_⟩
          · simp [part,run_isAgg ha w,run_size hs w]
          · subst h
            simp only [RV]
            refine ⟨(us.drop off).take n,(hl.drop off).take n,?_⟩
            congr 1
            apply Array.ext'
            simp [List.take_drop,List.extract_eq_take_drop]
        · simp at h
    | false =>
      simp only [ha] at h
      obtain ⟨u,h1,h2⟩:=RVs.get off hl h
      exact ⟨u,by simp [part,run_isAgg ha w,h1],h2⟩
theorem run_loadV {t o:Nat} {l:List MV} {v:MV} (h:partV P t l o = some v) {us rest:List Value} (hl:RVs σ l us) {g ty:Nat} {fr:Nat × Nat} {w:World} (hg:w.heap[g]? = some (.cells (us ++ rest).toArray ty fr)) :
    ∃ u,(loadVar t ⟨g,o,none⟩).run P w = .ok u w ∧ RV σ v u:=by
  unfold partV at h
  cases ha:aggT P t with
  | none => simp [ha] at h
  | some b =>
    cases b with
    | true =>
      cases hs:szT P t with
      | none => simp [ha,hs] at h
      | some n =>
        simp only [ha,hs] at h
        split at h
        · rename_i hle
          injection h with h
          have hlen:=hl.length
          have hn:((us.drop o).take n).length = n:=by simp; omega
          have hc:=run_loadCells_list (P:=P) w ⟨g,o,none⟩ ((us.drop o).take n) (fun j u hj => by
            rw [addr_add]
            simp only [World.cell?,hg]
            simp only [List.getElem?_take,List.getElem?_drop] at hj
            split at hj
            · have hlt:=(List.getElem?_eq_some_iff.1 hj).1
              simp [List.getElem?_append_left hlt,hj]
            · simp at hj)
          rw [hn] at hc
          refine ⟨.agg ((us.drop o).take n).toArray,?_,?_⟩
          · simp [loadVar,run_isAgg ha w,run_size hs w,hc]
          · subst h
            simp only [RV]
            exact ⟨_,(hl.drop o).take n,rfl⟩
        · simp at h
    | false =>
      simp only [ha] at h
      obtain ⟨u,h1,h2⟩:=RVs.get o hl h
      have hlt:=(List.getElem?_eq_some_iff.1 h1).1
      exact ⟨u,by simp [loadVar,run_isAgg ha w,World.cell?,hg,List.getElem?_append_left hlt,h1],h2⟩
theorem atoms_one {l:List MV} (h:l.all MV.atom = true) {us:List Value} (hl:RVs σ l us):∀ u ∈ us,u.oneCell' = true:=by
  intro u hu
  obtain ⟨k,hk⟩:=List.getElem?_of_mem hu
  have hlt:k < l.length:=by
    have:=hl.length
    have:=(List.getElem?_eq_some_iff.1 hk).1
    omega
  obtain ⟨u',h1,h2⟩:=RVs.get k hl (List.getElem?_eq_getElem hlt)
  rw [hk] at h1
  injection h1 with h1
  subst h1
  have:=RV.atom h2 ((List.all_eq_true.1 h) _ (List.getElem_mem hlt))
  cases u <;> simp_all [Value.atom,Value.oneCell']
theorem foldl_put (cs:Array Value) (off:Nat):∀ (l:List Value) (k:Nat) (c:Array Value),(l.zipIdx k).foldl (fun a (x:Value × Nat) => a.setIfInBounds (off + x.2) x.1) c = ⟨(l.zipIdx k).foldl (fun a (x:Value × Nat) => a.set (off + x.2) x.1) c.toList⟩
  | [],k,c => by simp
  | v :: l,k,c => by
    simp only [List.zipIdx_cons,List.foldl_cons]
    rw [foldl_put cs off l (k + 1)]
    simp
theorem foldl_set (off:Nat):∀ (l:List Value) (k:Nat) (c:List Value),off + k + l.length ≤ c.length → (l.zipIdx k).foldl (fun a (x:Value × Nat) => a.set (off + x.2) x.1) c = c.take (off + k) ++ l ++ c.drop (off + k + l.length)
  | [],k,c,h => by simp
  | v :: l,k,c,h => by
    simp only [List.zipIdx_cons,List.foldl_cons]
    rw [foldl_set off l (k + 1) _ (by simp at h ⊢; omega)]
    have e:=list_seg_step c (off + k) v l (by simp at h; omega)
    rw [show off + (k + 1) = off + k + 1 by omega]
    simpa using e
theorem fill_ok (place:Nat → Option (Nat × Nat)):∀ (ps:List (Nat × MV)) (qs:List (Nat × Value)) (cells:List MV) (us:List Value) (r:List MV),
    fillV place cells ps = some r → RVs σ cells us → ps.map (·.1) = qs.map (·.1) → RVs σ (ps.map (·.2)) (qs.map (·.2)) →
    ∃ vs,Instr.fill place us.toArray qs = some vs.toArray ∧ RVs σ r vs
  | [],[],cells,us,r,h,hc,_,_ => by simp [fillV] at h; subst h; exact ⟨us,by simp [Instr.fill],hc⟩
  | [],q :: qs,cells,us,r,h,hc,he,_ => by simp at he
  | p :: ps,[],cells,us,r,h,hc,he,_ => by simp at he
  | (i,v) :: ps,(j,u) :: qs,cells,us,r,h,hc,he,hv => by
    simp only [List.map_cons,List.cons.injEq] at he
    obtain ⟨rfl,he⟩:=he
    simp only [List.map_cons,RVs] at hv
    obtain ⟨u',r',e,h1,h2⟩:=hv
    simp only [List.cons.injEq] at e
    obtain ⟨rfl,rfl⟩:=e
    unfold fillV at h
    cases hp:place i with
    | none => simp [hp] at h
    | some q =>
      obtain ⟨off,size⟩:=q
      simp only [hp] at h
      split at h
      · rename_i hle
        obtain ⟨hsol,hsz,hle⟩:=hle
        have hcl:=h1.cells hsol
        have hlen:=hcl.length
        have hlu:=hc.length
        have hnew:RVs σ (cells.take off ++ v.cells ++ cells.drop (off + size)) (us.take off ++ u.cells.toList ++ us.drop (off + size)):=((hc.take off).append hcl).append (hc.drop (off + size))
        obtain ⟨vs,g1,g2⟩:=fill_ok place ps qs _ _ r h hnew he h2
        refine ⟨vs,?_,g2⟩
        have hus:u.cells.size = size:=by rw [← hsz,← hlen]; simp
        unfold Instr.fill
        simp only [hp]
        rw [if_neg (by simp [hus]; omega)]
        rw [← g1]
        congr 1
        apply Array.ext'
        have e1:=foldl_put us.toArray off u.cells.toList 0 us.toArray
        have e2:=foldl_set off u.cells.toList 0 us (by simp [hus]; omega)
        rw [← Array.foldl_toList,Array.toList_zipIdx]
        have e3:(u.cells.toList.zipIdx).foldl (fun (cs:Array Value) (x:Value × Nat) => match x with | (c,j) => cs.setIfInBounds (off + j) c) us.toArray = (u.cells.toList.zipIdx 0).foldl (fun a (x:Value × Nat) => a.setIfInBounds (off + x.2) x.1) us.toArray:=rfl
        rw [e3,e1,e2]
        simp [hus]
      · simp at h
end
end Go.Proofs.Ytppklhfiajjhmaa.Y
end
section
namespace Go.Proofs.Ytppklhfiajjhmaa.Y
open Go Go.RowKit
set_option linter.unusedVariables false
set_option linter.unusedSimpArgs false
section
variable {P:Program} {σ:Sg}
theorem solid_of {x:MV} (h:x.cells.all MV.atom = true):x.solid = true:=by cases x <;> first | rfl | (simp [MV.cells,MV.atom] at h)
theorem RV.ptr_inv {b o:Nat} {u:Value} (h:RV σ (.ptr b o) u):∃ g,σ b = some g ∧ u = .pointer (some ⟨g,σ.off b + o,none⟩):=by simpa only [RV] using h
theorem RV.val_inv {v u:Value} (h:RV σ (.val v) u):u = v:=by simpa only [RV] using h
theorem RV.agg_inv {l:List MV} {u:Value} (h:RV σ (.agg l) u):∃ xs,RVs σ l xs ∧ u = .agg xs.toArray:=by simpa only [RV] using h
theorem RV.tup_inv {l:List MV} {u:Value} (h:RV σ (.tup l) u):∃ xs,RVs σ l xs ∧ u = .tuple xs.toArray:=by simpa only [RV] using h
theorem RV.fn_inv {f:Nat} {x y:List MV} {u:Value} (h:RV σ (.fn f x y) u):∃ xs ys,RVs σ x xs ∧ RVs σ y ys ∧ u = .func (.func f) xs.toArray ys.toArray:=by simpa only [RV] using h
theorem RV.sl_inv {b o n c:Nat} {u:Value} (h:RV σ (.sl b o n c) u):∃ g,σ b = some g ∧ u = .slice (some ⟨g,σ.off b + o,none⟩) n c:=by simpa only [RV] using h
theorem RV.pe_inv {b s i o:Nat} {u:Value} (h:RV σ (.pe b s i o) u):∃ g,σ b = some g ∧ u = .pointer (some ⟨g,σ.off b + (i * s + o),none⟩):=by simpa only [RV] using h
theorem RV.va_inv {b i n s:Nat} {u:Value} (h:RV σ (.va b i n s) u):∃ A c,u = .slice A n c ∧ n ≤ c ∧ (0 < n → ∃ g,σ b = some g ∧ A = some ⟨g,σ.off b + i * s,none⟩):=by simpa only [RV] using h
theorem RV.gv_inv {b n s:Nat} {u:Value} (h:RV σ (.gv b n s) u):∃ A c,u = .slice A n c ∧ n ≤ c ∧ (n = 0 → c = 0) ∧ (0 < c → ∃ g,σ b = some g ∧ A = some ⟨g,σ.off b,none⟩ ∧ c * s = σ.κ b):=by simpa only [RV] using h
theorem RV.xs_inv {x n:Nat} {u:Value} (h:RV σ (.xs x n) u):u = σ.x x ∧ ∃ A c,u = .slice A n c:=by simpa only [RV] using h
theorem recs_part (sh:List (Option IntKind)) {l:List (List Int)} {i:Nat} (hi:i < l.length) :
    l.flatMap (recC sh 0) = (l.take i).flatMap (recC sh 0) ++ recC sh 0 (l.getD i []) ++ (l.drop (i + 1)).flatMap (recC sh 0):=by
  have e:l = l.take i ++ l.getD i [] :: l.drop (i + 1):=by
    rw [List.getD_eq_getElem?_getD,List.getElem?_eq_getElem hi,Option.getD_some,← List.drop_eq_getElem_cons hi,List.take_append_drop]
  conv => lhs; rw [e]
  simp
theorem recs_len (sh:List (Option IntKind)):∀ (l:List (List Int)),(l.flatMap (recC sh 0)).length = l.length * sh.length
  | [] => by simp
  | r :: l => by
    have:=recs_len sh l
    simp only [List.flatMap_cons,List.length_append,recC_len,this,List.length_cons]
    rw [Nat.add_mul]; omega
theorem recC_get:∀ (sh:List (Option IntKind)) (c:Nat) (r:List Int) (j:Nat),(recC sh c r)[j]? = match sh[j]? with
    | some (some k) => some (.val (.int k (r.getD (c + j) 0)))
    | some none => some (.val (.bool (r.getD (c + j) 0 != 0)))
    | none => none
  | [],c,r,j => by simp [recC]
  | some k :: sh,c,r,0 => by simp [recC]
  | none :: sh,c,r,0 => by simp [recC]
  | some k :: sh,c,r,j + 1 => by
    simp only [recC,List.getElem?_cons_succ]
    rw [recC_get sh (c + 1) r j,show c + 1 + j = c + (j + 1) by omega]
  | none :: sh,c,r,j + 1 => by
    simp only [recC,List.getElem?_cons_succ]
    rw [recC_get sh (c + 1) r j,show c + 1 + j = c + (j + 1) by omega]
theorem setRec_get:∀ (sh:List (Option IntKind)) (c:Nat) (r:List Int) (o:Nat) (v:Int) (j:Nat),o < sh.length → j < sh.length → (setRec sh c r o v).getD j 0 = if j = o then v else r.getD (c + j) 0
  | [],c,r,o,v,j,h,_ => by simp at h
  | x :: sh,c,r,0,v,0,h,_ => by simp [setRec]
  | x :: sh,c,r,0,v,j + 1,h,hj => by
    simp only [List.length_cons] at hj
    have:j < sh.length:=by omega
    show ((List.range sh.length).map fun j => r.getD (c + 1 + j) 0).getD j 0 = _
    rw [if_neg (by omega),show c + (j + 1) = c + 1 + j by omega]
    simp [List.getD_eq_getElem?_getD,this]
  | x :: sh,c,r,o + 1,v,0,h,_ => by simp [setRec]
  | x :: sh,c,r,o + 1,v,j + 1,h,hj => by
    simp only [List.length_cons] at h hj
    have:=setRec_get sh (c + 1) r o v j (by omega) (by omega)
    simp only [setRec,List.getD_cons_succ,this,Nat.add_right_cancel_iff]
    rw [show c + 1 + j = c + (j + 1) by omega]
def cellV:Option IntKind → Int → MV
  | some k,v => .val (.int k v)
  | none,v => .val (.bool (v != 0))
theorem recC_getV (sh:List (Option IntKind)) (c:Nat) (r:List Int) (j:Nat):(recC sh c r)[j]? = (sh[j]?).map fun s => cellV s (r.getD (c + j) 0):=by
  rw [recC_get]
  cases sh[j]? with
  | none => rfl
  | some s => cases s <;> rfl
theorem cellV_atom (s:Option IntKind) (v:Int):MV.atom (cellV s v) = true ∧ (cellV s v).cells = [cellV s v]:=by cases s <;> exact ⟨rfl,rfl⟩
theorem cellOf_V {sh:List (Option IntKind)} {o:Nat} {x:MV} {v:Int} (h:cellOf sh o x = some v):∃ s,sh[o]? = some s ∧ x = cellV s v:=by
  unfold cellOf at h
  split at h
  · rename_i k w
    split at h
    · rename_i k' hk
      split at h
      · rename_i e
        injection h with h; subst h; subst e
        exact ⟨_,hk,rfl⟩
      · simp at h
    · simp at h
  · rename_i p
    split at h
    · rename_i hk
      injection h with h; subst h
      exact ⟨_,hk,by cases p <;> rfl⟩
    · simp at h
  · simp at h
theorem recC_set {sh:List (Option IntKind)} {r:List Int} {o:Nat} {x:MV} {v:Int} (h:cellOf sh o x = some v):recC sh 0 (setRec sh 0 r o v) = (recC sh 0 r).set o x ∧ o < sh.length ∧ MV.atom x = true ∧ x.cells = [x]:=by
  obtain ⟨s,hs,rfl⟩:=cellOf_V h
  have ho:o < sh.length:=(List.getElem?_eq_some_iff.1 hs).1
  refine ⟨?_,ho,(cellV_atom s v).1,(cellV_atom s v).2⟩
  apply List.ext_getElem?
  intro j
  rw [recC_getV,List.getElem?_set,recC_getV]
  simp only [Nat.zero_add,recC_len]
  by_cases hj:j < sh.length
  · rw [setRec_get sh 0 r o _ j ho hj]
    by_cases e:o = j
    · subst e
      simp only [hs,ho,if_true,Option.map_some]
    · rw [if_neg (Ne.symm e),if_neg e,Nat.zero_add]
  · have:sh[j]? = none:=by simp; omega
    rw [this,if_neg (by omega)]
    rfl
theorem cellsOf_get {sh:List (Option IntKind)}:∀ (xs:List MV) (o:Nat) (vs:List Int),cellsOf sh o xs = some vs → vs.length = xs.length ∧ ∀ (j:Nat) x,xs[j]? = some x → ∃ s,sh[o + j]? = some s ∧ x = cellV s (vs.getD j 0)
  | [],o,vs,h => by simp [cellsOf] at h; subst h; exact ⟨rfl,by intro j x hj; simp at hj⟩
  | y :: xs,o,vs,h => by
    unfold cellsOf at h
    split at h
    · rename_i v vs' h1 h2
      injection h with h; subst h
      obtain ⟨g1,g2⟩:=cellsOf_get xs (o + 1) vs' h2
      refine ⟨by simp [g1],fun j x hj => ?_⟩
      cases j with
      | zero =>
        simp only [List.getElem?_cons_zero,Option.some.injEq] at hj
        subst hj
        exact cellOf_V h1
      | succ j =>
        obtain ⟨s,e1,e2⟩:=g2 j x (by simpa using hj)
        exact ⟨s,by rw [← e1]; congr 1; omega,by rw [e2]; rfl⟩
    · cases h
theorem recC_sets {sh:List (Option IntKind)} {r:List Int} {o:Nat} {xs:List MV} {vs:List Int} (h:cellsOf sh o xs = some vs) (hne:xs ≠ []) :
    recC sh 0 (setRecs sh r o vs) = (recC sh 0 r).take o ++ xs ++ (recC sh 0 r).drop (o + xs.length) ∧ o + xs.length ≤ sh.length ∧ xs.all MV.atom = true:=by
  obtain ⟨hl,hg⟩:=cellsOf_get xs o vs h
  have hpos:0 < xs.length:=List.length_pos_iff.2 hne
  have hfit:o + xs.length ≤ sh.length:=by
    obtain ⟨s,e1,_⟩:=hg (xs.length - 1) _ (List.getElem?_eq_getElem (by omega))
    have:=(List.getElem?_eq_some_iff.1 e1).1
    omega
  refine ⟨?_,hfit,?_⟩
  · apply List.ext_getElem?
    intro j
    have hlen:=recC_len sh 0 r
    rw [recC_getV]
    by_cases hj:j < sh.length
    · have e0:(setRecs sh r o vs).getD (0 + j) 0 = if o ≤ j ∧ j < o + vs.length then vs.getD (j - o) 0 else r.getD j 0:=by
        unfold setRecs
        rw [Nat.zero_add,List.getD_eq_getElem?_getD,List.getElem?_map,List.getElem?_range hj]
        rfl
      rw [e0]
      rcases Nat.lt_or_ge j o with h1 | h1
      · rw [List.append_assoc,List.getElem?_append_left (by rw [List.length_take]; omega),List.getElem?_take,if_pos h1,recC_getV,if_neg (by omega),Nat.zero_add]
      · rcases Nat.lt_or_ge j (o + xs.length) with h2 | h2
        · rw [List.getElem?_append_left (by rw [List.length_append,List.length_take]; omega),List.getElem?_append_right (by rw [List.length_take]; omega),if_pos (by omega)]
          have e1:j - ((recC sh 0 r).take o).length = j - o:=by rw [List.length_take]; omega
          rw [e1]
          obtain ⟨s,e2,e3⟩:=hg (j - o) _ (List.getElem?_eq_getElem (by omega))
          rw [show o + (j - o) = j by omega] at e2
          rw [e2,List.getElem?_eq_getElem (by omega),e3]
          rfl
        · rw [List.getElem?_append_right (by rw [List.length_append,List.length_take]; omega),List.getElem?_drop,if_neg (by omega)]
          have e1:o + xs.length + (j - ((recC sh 0 r).take o ++ xs).length) = j:=by rw [List.length_append,List.length_take]; omega
          rw [e1,recC_getV,Nat.zero_add]
    · have e1:sh[j]? = none:=by simp; omega
      rw [e1,List.getElem?_eq_none (by simp only [List.length_append,List.length_take,List.length_drop]; omega)]
      rfl
  · rw [List.all_eq_true]
    intro x hx
    obtain ⟨j,hj,rfl⟩:=List.mem_iff_getElem.1 hx
    obtain ⟨s,_,e⟩:=hg j _ (List.getElem?_eq_getElem hj)
    rw [e]
    exact (cellV_atom _ _).1
theorem partV_rec {t o i:Nat} {sh:List (Option IntKind)} {l:List (List Int)} {v:MV} (hi:i < l.length) (h:partV P t (recC sh 0 (l.getD i [])) o = some v) :
    partV P t (l.flatMap (recC sh 0)) (i * sh.length + o) = some v:=by
  have hp:=recs_part sh hi
  have hl:((l.take i).flatMap (recC sh 0)).length = i * sh.length:=by rw [recs_len]; congr 1; simp; omega
  have hr:=recC_len sh 0 (l.getD i [])
  rw [hp]
  unfold partV at h ⊢
  cases ha:aggT P t with
  | none => simp [ha] at h
  | some b =>
    cases b with
    | true =>
      cases hs:szT P t with
      | none => simp [ha,hs] at h
      | some n =>
        simp only [ha,hs] at h ⊢
        split at h
        · rename_i hle
          rw [if_pos (by simp only [List.length_append,hl]; omega)]
          injection h with h
          rw [← h]
          congr 2
          rw [List.append_assoc,List.drop_append,List.drop_of_length_le (by omega),hl,Nat.add_sub_cancel_left,List.nil_append,List.drop_append_of_le_length (by omega),List.take_append_of_le_length (by rw [List.length_drop]; omega)]
        · simp at h
    | false =>
      simp only [ha] at h ⊢
      have hlt:o < (recC sh 0 (l.getD i [])).length:=(List.getElem?_eq_some_iff.1 h).1
      rw [List.append_assoc,List.getElem?_append_right (by omega),hl,Nat.add_sub_cancel_left,List.getElem?_append_left hlt,h]
theorem recs_set {o i:Nat} {sh:List (Option IntKind)} {l:List (List Int)} {x:MV} {v:Int} (hi:i < l.length) (h:cellOf sh o x = some v) :
    (l.set i (setRec sh 0 (l.getD i []) o v)).flatMap (recC sh 0) = (l.flatMap (recC sh 0)).take (i * sh.length + o) ++ [x] ++ (l.flatMap (recC sh 0)).drop (i * sh.length + o + [x].length) ∧ i * sh.length + o + 1 ≤ (l.flatMap (recC sh 0)).length:=by
  obtain ⟨hr,ho,_,_⟩:=recC_set (r:=l.getD i []) h
  have hp:=recs_part sh hi
  have hl:((l.take i).flatMap (recC sh 0)).length = i * sh.length:=by rw [recs_len]; congr 1; simp; omega
  have hR:=recC_len sh 0 (l.getD i [])
  have hp2:=recs_part sh (l:=l.set i (setRec sh 0 (l.getD i []) o v)) (i:=i) (by simpa using hi)
  have e1:(l.set i (setRec sh 0 (l.getD i []) o v)).getD i [] = setRec sh 0 (l.getD i []) o v:=by simp [List.getD_eq_getElem?_getD,hi]
  rw [e1,hr,List.take_set_of_le (Nat.le_refl i),List.drop_set_of_lt (Nat.lt_succ_self i)] at hp2
  rw [hp2,hp]
  generalize hA:(l.take i).flatMap (recC sh 0) = A at *
  generalize hB:(l.drop (i + 1)).flatMap (recC sh 0) = B at *
  generalize hRR:recC sh 0 (l.getD i []) = R at *
  constructor
  · rw [List.append_assoc,List.append_assoc A R B,List.take_append,List.drop_append,List.take_of_length_le (by omega),List.drop_of_length_le (by simp; omega),hl,Nat.add_sub_cancel_left]
    rw [show i * sh.length + o + [x].length - i * sh.length = o + 1 by simp; omega,List.take_append_of_le_length (by omega),List.drop_append_of_le_length (by omega)]
    have:R.set o x = R.take o ++ [x] ++ R.drop (o + 1):=by
      rw [List.set_eq_take_append_cons_drop,if_pos (by omega)]; simp
    rw [this]
    simp
  · simp only [List.length_append,hl]; omega
theorem recs_sets {o i:Nat} {sh:List (Option IntKind)} {l:List (List Int)} {xs:List MV} {vs:List Int} (hi:i < l.length) (h:cellsOf sh o xs = some vs) (hne:xs ≠ []) :
    (l.set i (setRecs sh (l.getD i []) o vs)).flatMap (recC sh 0) = (l.flatMap (recC sh 0)).take (i * sh.length + o) ++ xs ++ (l.flatMap (recC sh 0)).drop (i * sh.length + o + xs.length) ∧ i * sh.length + o + xs.length ≤ (l.flatMap (recC sh 0)).length:=by
  obtain ⟨hr,hfit,_⟩:=recC_sets (r:=l.getD i []) h hne
  have hp:=recs_part sh hi
  have hl:((l.take i).flatMap (recC sh 0)).length = i * sh.length:=by rw [recs_len]; congr 1; simp; omega
  have hR:=recC_len sh 0 (l.getD i [])
  have hp2:=recs_part sh (l:=l.set i (setRecs sh (l.getD i []) o vs)) (i:=i) (by simpa using hi)
  have e1:(l.set i (setRecs sh (l.getD i []) o vs)).getD i [] = setRecs sh (l.getD i []) o vs:=by simp [List.getD_eq_getElem?_getD,hi]
  rw [e1,hr,List.take_set_of_le (Nat.le_refl i),List.drop_set_of_lt (Nat.lt_succ_self i)] at hp2
  rw [hp2,hp]
  generalize hA:(l.take i).flatMap (recC sh 0) = A at *
  generalize hB:(l.drop (i + 1)).flatMap (recC sh 0) = B at *
  generalize hRR:recC sh 0 (l.getD i []) = R at *
  constructor
  · have t1:(A ++ (R ++ B)).take (i * sh.length + o) = A ++ R.take o:=by
      rw [List.take_append,List.take_of_length_le (by omega),hl,Nat.add_sub_cancel_left,List.take_append_of_le_length (by omega)]
    have t2:(A ++ (R ++ B)).drop (i * sh.length + o + xs.length) = R.drop (o + xs.length) ++ B:=by
      rw [List.drop_append,List.drop_of_length_le (by omega),hl,show i * sh.length + o + xs.length - i * sh.length = o + xs.length by omega,List.nil_append,List.drop_append_of_le_length (by omega)]
    rw [List.append_assoc A R B,t1,t2]
    simp
  · simp only [List.length_append,hl]; omega
theorem RV.gs_inv {b o n s:Nat} {u:Value} (h:RV σ (.gs b o n s) u):∃ g c,σ b = some g ∧ u = .slice (some ⟨g,σ.off b + o,none⟩) n c ∧ n ≤ c ∧ o + c * s = σ.κ b:=by simpa only [RV] using h
theorem pick_ok {t:Bool} {x y:MV} {u v:Value} (hx:RV σ x u) (hy:RV σ y v):RV σ (pickV t x y) (if t = true then u else v):=by
  have gen:RV σ (match t with | true => x | false => y) (if t = true then u else v):=by cases t <;> simpa
  unfold pickV
  split
  · have e1:=hx.val_inv
    have e2:=hy.val_inv
    subst e1; subst e2
    cases t <;> simp [RV]
  · exact gen
theorem neqq_ok {op:BinOp} {r:Bool} {v:MV} (h:neqq op r = some v):(op = .eql ∨ op = .neq) ∧ RV σ v (.bool (eqR op r)):=by
  unfold neqq at h
  split at h <;> simp at h
  · subst h; simp [RV,eqR]
  · subst h; simp [RV,eqR]
theorem intBin_ok {op:BinOp} {k:IntKind} {a b:Int} {v:MV} (h:intBin op k a b = some v) (x y:Operand) (t:Nat) (w:World) :
    ∃ u,((do eqGuard op t x y (.int k a) (.int k b); binOp op t (.int k a) (.int k b):Sem Value).run P w = .ok u w) ∧ RV σ v u:=by
  unfold intBin at h
  simp only [Bool.cond_decide] at h
  split at h
  all_goals first
    | (injection h with h; subst h; exact ⟨_,by simp [eqGuard,binOp,Op.intArith,Op.intCmp]; rfl,by simp [RV]⟩)
    | (split at h
       · simp at h
       · rename_i hb
         injection h with h; subst h
         exact ⟨_,by simp [eqGuard,binOp,Op.intDiv,hb]; rfl,by simp [RV]⟩)
    | simp at h
theorem run_eq {t:Nat} {x y:Value} {r:Bool} {w:World} (h:∀ n,(Op.equalIn (n + 1) t x y).run P w = .ok r w):(Op.equal t x y).run P w = .ok r w:=h 9999
theorem eqBoth {op:BinOp} {t:Nat} {x y:Operand} {a b:Value} {r:Bool} {w:World} (ho:op = .eql ∨ op = .neq) (hg:(eqGuard op t x y a b).run P w = .ok () w)
    (he:binOp .eql t a b = (do pure (.bool (← Op.equal t a b)))) (hn:binOp .neq t a b = (do pure (.bool (!(← Op.equal t a b))))) (h:∀ n,(Op.equalIn (n + 1) t a b).run P w = .ok r w) :
    (do eqGuard op t x y a b; binOp op t a b:Sem Value).run P w = .ok (.bool (eqR op r)) w:=by
  have h1:=run_eq h
  rcases ho with rfl | rfl
  · rw [Sem.run_bind,hg,Result.andThen_ok,he,Sem.run_bind,h1]; rfl
  · rw [Sem.run_bind,hg,Result.andThen_ok,hn,Sem.run_bind,h1]; rfl
theorem guard_ok {op:BinOp} {t:Nat} {x y:Operand} {a b:Value} {w:World} (h:match a,b with | .nilIface,.nilIface | .agg _,.agg _ => False | _,_ => True):(eqGuard op t x y a b).run P w = .ok () w:=by
  unfold eqGuard
  cases op <;> cases a <;> cases b <;> simp_all
theorem bin_ok {E:Eqs} (hE:EqOk P E) {op:BinOp} {t:Nat} {p q v:MV} (h:binV P E op t p q = some v) {a b:Value} (ha:RV σ p a) (hb:RV σ q b) (x y:Operand) (w:World) :
    ∃ u,((do eqGuard op t x y a b; binOp op t a b:Sem Value).run P w = .ok u w) ∧ RV σ v u:=by
  unfold binV at h
  split at h
  · have e1:=ha.val_inv
    have e2:=hb.val_inv
    subst e1; subst e2
    split at h
    · split at h
      · simp at h
      · rename_i hb0
        injection h with h; subst h
        exact ⟨_,by simp [eqGuard,binOp,Op.shift,hb0]; rfl,by simp [RV]⟩
    · split at h
      · simp at h
      · rename_i hb0
        injection h with h; subst h
        exact ⟨_,by simp [eqGuard,binOp,Op.shift,hb0]; rfl,by simp [RV]⟩
    · split at h
      · rename_i e
        subst e
        exact intBin_ok h x y t w
      · simp at h
  · split at h
    · rename_i hp
      have e1:=ha.val_inv
      have e2:=hb.val_inv
      subst e1; subst e2
      obtain ⟨ho,hr⟩:=neqq_ok (σ:=σ) h
      have hu:P.underlying t = some .bool:=by
        unfold boolT at hp; split at hp <;> simp_all
      refine ⟨_,?_,hr⟩
      exact eqBoth ho (guard_ok trivial) rfl rfl (fun n => by simp [Op.equalIn,underlying,hu])
    · simp at h
  · split at h
    · rename_i hp
      obtain ⟨_,_,_,_,rfl⟩:=ha.fn_inv
      have e2:=hb.val_inv
      subst e2
      obtain ⟨ho,hr⟩:=neqq_ok (σ:=σ) h
      obtain ⟨ps,rs,va,hu⟩:∃ ps rs va,P.underlying t = some (.func ps rs va):=by
        unfold funcT at hp; split at hp <;> simp_all
      refine ⟨_,?_,hr⟩
      exact eqBoth ho (guard_ok trivial) rfl rfl (fun n => by simp [Op.equalIn,underlying,hu])
    · simp at h
  · split at h
    · rename_i hp
      have e1:=ha.val_inv
      have e2:=hb.val_inv
      subst e1; subst e2
      obtain ⟨ho,hr⟩:=neqq_ok (σ:=σ) h
      obtain ⟨ps,rs,va,hu⟩:∃ ps rs va,P.underlying t = some (.func ps rs va):=by
        unfold funcT at hp; split at hp <;> simp_all
      refine ⟨_,?_,hr⟩
      exact eqBoth ho (guard_ok trivial) rfl rfl (fun n => by simp [Op.equalIn,underlying,hu])
    · simp at h
  · split at h
    · rename_i hp
      obtain ⟨g,_,rfl⟩:=ha.ptr_inv
      have e2:=hb.val_inv
      subst e2
      obtain ⟨ho,hr⟩:=neqq_ok (σ:=σ) h
      obtain ⟨el,hu⟩:∃ el,P.underlying t = some (.pointer el):=by
        unfold ptrT at hp; split at hp <;> simp_all
      refine ⟨_,?_,hr⟩
      exact eqBoth ho (guard_ok trivial) rfl rfl (fun n => by simp [Op.equalIn,underlying,hu])
    · simp at h
  · split at h
    · rename_i hp
      have e1:=ha.val_inv
      have e2:=hb.val_inv
      subst e1; subst e2
      obtain ⟨ho,hr⟩:=neqq_ok (σ:=σ) h
      obtain ⟨el,hu⟩:∃ el,P.underlying t = some (.pointer el):=by
        unfold ptrT at hp; split at hp <;> simp_all
      refine ⟨_,?_,hr⟩
      exact eqBoth ho (guard_ok trivial) rfl rfl (fun n => by simp [Op.equalIn,underlying,hu])
    · simp at h
  · split at h
    · rename_i r hr0
      obtain ⟨us,h1,rfl⟩:=ha.agg_inv
      obtain ⟨vs,h2,rfl⟩:=hb.agg_inv
      obtain ⟨ho,hr⟩:=neqq_ok (σ:=σ) h
      exact ⟨_,hE t _ _ r hr0 σ us vs w x y op h1 h2 ho,hr⟩
    · simp at h
  · simp at h
theorem run_newRow (t:Nat) (cs:Array Value) (w:World):(newRow t cs).run P w = .ok ⟨w.heap.size,0,none⟩ (w.alloc (.cells cs t (0,0))):=rfl
theorem mapM_places {fs:Array Field} (h:fs.all (fun f => (szT P f.type).isSome) = true) (w:World) :
    (fs.mapM (fun f => do pure (f.offset,← sizeOf f.type):Field → Sem (Nat × Nat))).run P w = .ok (fs.map fun f => (f.offset,(szT P f.type).getD 0)) w:=by
  have key:∀ l:List Field,(∀ f ∈ l,(szT P f.type).isSome = true) → (l.mapM (fun f => do pure (f.offset,← sizeOf f.type):Field → Sem (Nat × Nat))).run P w = .ok (l.map fun f => (f.offset,(szT P f.type).getD 0)) w:=by
    intro l
    induction l with
    | nil => intro _; rfl
    | cons f l ih =>
      intro hl
      obtain ⟨n,hn⟩:=Option.isSome_iff_exists.1 (hl f List.mem_cons_self)
      rw [List.mapM_cons,Sem.run_bind,Sem.run_bind,run_size hn w]
      simp only [Result.andThen_ok,Sem.run_pure,Sem.run_bind]
      rw [ih (fun g hg => hl g (List.mem_cons_of_mem _ hg))]
      simp [hn]
  have h':∀ f ∈ fs.toList,(szT P f.type).isSome = true:=by
    intro f hf
    exact (Array.all_eq_true_iff_forall_mem.1 h) f (by simpa using hf)
  have k:=key fs.toList h'
  rw [← Array.toList_mapM] at k
  rw [Sem.run_map] at k
  cases hr:(fs.mapM (fun f => do pure (f.offset,← sizeOf f.type):Field → Sem (Nat × Nat))).run P w with
  | ok x w' =>
    rw [hr] at k
    simp only [Result.andThen_ok] at k
    injection k with k1 k2
    subst k2
    congr 1
    apply Array.ext'
    rw [k1]; simp
  | halt x w' => rw [hr] at k; simp at k
theorem Reads.at {rd:Nat → Option Blk} {w:World} (hr:Reads σ w rd) {b:Nat} {k:Blk} (h:rd b = some k) {g:Nat} (hg:σ b = some g):∃ pre cs rest:List Value,AtH w g k (pre ++ (cs ++ rest)) ∧ RVs σ k.cells cs ∧ (cs ++ rest).length = σ.κ b ∧ pre.length = σ.off b ∧ (k.ro = false → pre = []):=by
  exact hr b k g h hg
theorem Reads.own {rd:Nat → Option Blk} {w:World} (hr:Reads σ w rd) {b:Nat} {k:Blk} (h:rd b = some k) (hro:k.ro = false) {g:Nat} (hg:σ b = some g):σ.off b = 0 ∧ ∃ cs rest:List Value,w.heap[g]? = some (.cells (cs ++ rest).toArray k.ty (0,0)) ∧ RVs σ k.cells cs ∧ (cs ++ rest).length = σ.κ b:=by
  obtain ⟨pre,cs,rest,h1,h2,h3,h4,h5⟩:=hr b k g h hg
  have:=h5 hro
  subst this
  have h1':=h1.own hro
  exact ⟨by simpa using h4.symm,cs,rest,by simpa using h1',h2,h3⟩
theorem partV_pre {P:Program} {t o:Nat} {l:List MV} {v:MV} (pre:List Value) (h:partV P t l o = some v):partV P t (pre.map .val ++ l) (pre.length + o) = some v:=by
  unfold partV at h ⊢
  cases ha:aggT P t with
  | none => simp [ha] at h
  | some b =>
    cases b with
    | true =>
      cases hs:szT P t with
      | none => simp [ha,hs] at h
      | some n =>
        simp only [ha,hs] at h ⊢
        split at h
        · rename_i hle
          rw [if_pos (by simp only [List.length_append,List.length_map]; omega)]
          injection h with h
          rw [← h,List.drop_append,List.drop_of_length_le (by simp),List.length_map,Nat.add_sub_cancel_left,List.nil_append]
        · simp at h
    | false =>
      simp only [ha] at h ⊢
      rw [List.getElem?_append_right (by simp),List.length_map,Nat.add_sub_cancel_left,h]
theorem load_pre {t o:Nat} {l:List MV} {v:MV} (h:partV P t l o = some v) {pre us rest:List Value} (hl:RVs σ l us) {g ty:Nat} {fr:Nat × Nat} {w:World} (hg:w.heap[g]? = some (.cells (pre ++ (us ++ rest)).toArray ty fr)) :
    ∃ u,(loadVar t ⟨g,pre.length + o,none⟩).run P w = .ok u w ∧ RV σ v u :=
  run_loadV (partV_pre pre h) ((RVs.vals pre).append hl) (by rw [hg,List.append_assoc])
theorem parts_ok {e:Operand → MV} {a:Act} (ps:Array (Nat × Operand)) (he:∀ x,x ∈ (ps.toList.map (·.2)) → RV σ (e x) (a.eval x)) :
    (ps.toList.map fun p => (p.1,e p.2)).map (·.1) = (ps.map fun p => (p.1,a.eval p.2)).toList.map (·.1) ∧ RVs σ ((ps.toList.map fun p => (p.1,e p.2)).map (·.2)) ((ps.map fun p => (p.1,a.eval p.2)).toList.map (·.2)):=by
  constructor
  · simp
  · rw [Array.toList_map,List.map_map,List.map_map]
    exact RVs.map _ _ _ (fun p hp => he p.2 (List.mem_map.2 ⟨p,hp,rfl⟩))
theorem cell_of {w:World} {g ty:Nat} {fr:Nat × Nat} {pre cs rest:List Value} (hg:w.heap[g]? = some (.cells (pre ++ (cs ++ rest)).toArray ty fr)) {o j q:Nat} {u:Value} (hq:q = pre.length + o) (h:(cs.drop o)[j]? = some u):w.cell? ((⟨g,q,none⟩:Addr).add j) = some u:=by
  subst hq
  rw [addr_add]
  rw [List.getElem?_drop] at h
  have hlt:=(List.getElem?_eq_some_iff.1 h).1
  have e:(pre ++ (cs ++ rest))[pre.length + o + j]? = some u:=by
    rw [List.getElem?_append_right (by omega),show pre.length + o + j - pre.length = o + j by omega,List.getElem?_append_left hlt,h]
  simp only [World.cell?,hg,Option.isSome_none,Bool.false_eq_true,if_false,List.getElem?_toArray]
  exact e
theorem news_ok {rd:Nat → Option Blk} {w:World} {s m:Nat} {y:MV} {v:Value} {news:List MV} (h:newsV rd s y = some (m,news)) (hy:RV σ y v) (hr:Reads σ w rd) :
    ∃ a c us,v = .slice (some a) m c ∧ RVs σ news us ∧ us.length = m * s ∧ ∀ j u,us[j]? = some u → w.cell? (a.add j) = some u:=by
  have key:∀ b o g (k:Blk),rd b = some k → σ b = some g → o + m * s ≤ k.cells.length → ∃ us,RVs σ ((k.cells.drop o).take (m * s)) us ∧ us.length = m * s ∧ ∀ j u,us[j]? = some u → w.cell? ((⟨g,σ.off b + o,none⟩:Addr).add j) = some u:=by
    intro b o g k hk hg hle
    obtain ⟨pre,cs,rest,⟨tyh,frh,h1,_⟩,h2,_,h4,_⟩:=hr.at hk hg
    have hl:=h2.length
    refine ⟨(cs.drop o).take (m * s),(h2.drop o).take _,by simp; omega,fun j u hu => ?_⟩
    rw [List.getElem?_take] at hu
    split at hu
    · exact cell_of h1 (by rw [h4]) hu
    · simp at hu
  unfold newsV at h
  split at h
  · rename_i b o m' c
    split at h
    · rename_i k hk
      split at h
      · rename_i hle
        simp only [Option.some.injEq,Prod.mk.injEq] at h
        obtain ⟨rfl,rfl⟩:=h
        obtain ⟨g,hg,rfl⟩:=hy.sl_inv
        obtain ⟨us,h1,h2,h3⟩:=key b o g k hk hg hle
        exact ⟨_,_,us,rfl,h1,h2,h3⟩
      · simp at h
    · simp at h
  · rename_i b o m' c
    split at h
    · rename_i k hk
      split at h
      · rename_i hle
        simp only [Option.some.injEq,Prod.mk.injEq] at h
        obtain ⟨rfl,rfl⟩:=h
        obtain ⟨g,c',hg,rfl,_⟩:=hy.gs_inv
        obtain ⟨us,h1,h2,h3⟩:=key b o g k hk hg hle
        exact ⟨_,_,us,rfl,h1,h2,h3⟩
      · simp at h
    · simp at h
  · simp at h
theorem app_ok {t ty:Nat} {rd:Nat → Option Blk} {w:World} {x y:MV} {u v:Value} {r:Res} (h:appV P t rd x y = some r) (hx:RV σ x u) (hy:RV σ y v) (hr:Reads σ w rd) :
    ∃ old cells el n sz,r = .app old cells el n sz ∧ ∃ us rest c,RVs σ cells us ∧ n ≤ c ∧ c * sz = (us ++ rest).length ∧
      ((Builtin.append_ #[t,t] ty #[u,v]).run P w = .ok (.slice (some ⟨w.heap.size,0,none⟩) n c) (w.drew.alloc (.cells (us ++ rest).toArray el (0,0))) ∨
       ∃ b k g,old = some b ∧ rd b = some k ∧ k.ro = false ∧ k.ty = el ∧ k.cells ≠ [] ∧ σ b = some g ∧ σ.κ b = (us ++ rest).length ∧ (Builtin.append_ #[t,t] ty #[u,v]).run P w = .ok (.slice (some ⟨g,0,none⟩) n c) (w.setRow g (us ++ rest).toArray)):=by
  unfold appV at h
  split at h
  · rename_i el hu
    split at h
    · rename_i i hi
      split at h
      · rename_i m news z hn hz
        split at h
        · simp at h
        · rename_i hbad
          have hs0:0 < i.size:=Nat.pos_of_ne_zero fun e => hbad (.inl e)
          have hzs:z.cells.size = i.size:=Decidable.byContradiction fun e => hbad (.inr (.inl e))
          have hat:news.all MV.atom = true:=by
            cases e:news.all MV.atom with
            | true => rfl
            | false => exact absurd (.inr (.inr (.inl e))) hbad
          have hm:m ≤ 2 ^ 24:=Nat.not_lt.1 fun e => hbad (.inr (.inr (.inr (.inl e))))
          have hby:i.bytes ≤ 2 ^ 20:=Nat.not_lt.1 fun e => hbad (.inr (.inr (.inr (.inr e))))
          obtain ⟨a,c0,us,rfl,hus,hul,hcell⟩:=news_ok hn hy hr
          have bytes:∀ k,k ≤ 2 ^ 25 → k * i.bytes ≤ 140737488355328:=fun k hk => Nat.le_trans (Nat.mul_le_mul hk hby) (by decide)
          have grown:∀ k old,(Builtin.zeroCells z.cells (grownCap w k old el - k)).toList.length = (grownCap w k old el - k) * i.size:=by
            intro k old; rw [Array.length_toList,size_zeroCells,hzs]
          split at h
          · split at h
            · simp at h
            · rename_i hm0
              injection h with h; subst h
              have hxu:=hx.val_inv
              subst hxu
              have hrun:=run_append_nil (P:=P) w t ty el i z hu hi hz a m c0 us hul hcell (by omega) (by omega) (Nat.le_trans (bytes m (by omega)) (by decide))
              refine ⟨_,_,_,_,_,rfl,us,(Builtin.zeroCells z.cells (grownCap w m 0 el - m)).toList,grownCap w m 0 el,hus,grownCap_ge w m 0 el,?_,.inl ?_⟩
              · have:=grownCap_ge w m 0 el
                rw [List.length_append,hul,grown,← Nat.add_mul]
                congr 1; omega
              · rw [hrun]
                congr 3
                apply Array.ext'; simp
          · rename_i b o n c
            split at h
            · rename_i k hk
              split at h
              · rename_i hc
                obtain ⟨c1,c2,c3⟩:=hc
                injection h with h; subst h
                obtain ⟨g,hg,rfl⟩:=hx.sl_inv
                obtain ⟨pre,cs,rest,⟨tyh,frh,g1,_⟩,g2,_,g4,_⟩:=hr.at hk hg
                have hl:=g2.length
                have hrun:=run_append_grow (P:=P) w t ty el i z hu hi hz ⟨g,σ.off b + o,none⟩ n c ((cs.drop o).take (n * i.size)) (by simp; omega) (fun j u hj => by
                  rw [List.getElem?_take] at hj
                  split at hj
                  · exact cell_of g1 (by rw [g4]) hj
                  · simp at hj) a m c0 us hul hcell c1 (by omega) (growslice_fits c1 (bytes _ (by omega)))
                refine ⟨_,_,_,_,_,rfl,(cs.drop o).take (n * i.size) ++ us,(Builtin.zeroCells z.cells (grownCap w (n + m) c el - (n + m))).toList,grownCap w (n + m) c el,((g2.drop o).take _).append hus,grownCap_ge w (n + m) c el,?_,.inl ?_⟩
                · have:=grownCap_ge w (n + m) c el
                  have hlt:((cs.drop o).take (n * i.size)).length = n * i.size:=by simp; omega
                  rw [List.length_append,List.length_append,hul,grown,hlt,← Nat.add_mul,← Nat.add_mul]
                  congr 1; omega
                · rw [hrun]
                  congr 3
                  apply Array.ext'; simp
              · simp at h
            · simp at h
          · rename_i b n s
            split at h
            · rename_i k hk
              split at h
              · rename_i hc
                obtain ⟨c0',rfl,c1,c2,c3,c4⟩:=hc
                injection h with h; subst h
                obtain ⟨g,c,hg,rfl,hnc,hcap⟩:=hx.gs_inv
                obtain ⟨hoff,cs,rest,g1,g2,g3⟩:=hr.own hk c0' hg
                have hl:=g2.length
                rw [hoff,Nat.zero_add]
                have hlt:(cs.take (n * i.size)).length = n * i.size:=by simp; omega
                by_cases hroom:n + m ≤ c
                · rw [c1] at g1
                  have hfit:n * i.size + us.length ≤ (cs ++ rest).toArray.size:=by
                    rw [hul,List.size_toArray,g3,← hcap,← Nat.add_mul,Nat.zero_add]; exact Nat.mul_le_mul_right _ hroom
                  have hrun:=run_append_room (P:=P) w t ty el i hu hi g n c _ g1 a m c0 us hul hcell (atoms_one hat hus) hroom hfit
                  refine ⟨_,_,_,_,_,rfl,cs.take (n * i.size) ++ us,(cs ++ rest).drop (n * i.size + us.length),c,(g2.take _).append hus,hroom,?_,.inr ⟨b,k,g,rfl,hk,c0',c1,by intro e; rw [e] at c4; exact c4 rfl,hg,?_,?_⟩⟩
                  · rw [List.length_append,List.length_append,hlt,List.length_drop,g3,← hcap]
                    rw [List.size_toArray,g3,← hcap] at hfit
                    omega
                  · rw [List.length_append,List.length_append,hlt,List.length_drop]
                    rw [List.size_toArray] at hfit
                    omega
                  · rw [hrun]
                    congr 2
                    rw [List.take_append_of_le_length (by omega)]
                · have c5:c < n + m:=by omega
                  have hrun:=run_append_grow (P:=P) w t ty el i z hu hi hz ⟨g,0,none⟩ n c (cs.take (n * i.size)) hlt (fun j u hj => by
                    rw [List.getElem?_take] at hj
                    split at hj
                    · exact cell_of (pre:=[]) (o:=0) g1 rfl (by simpa using hj)
                    · simp at hj) a m c0 us hul hcell c5 (by omega) (growslice_fits c5 (bytes _ (by omega)))
                  refine ⟨_,_,_,_,_,rfl,cs.take (n * i.size) ++ us,(Builtin.zeroCells z.cells (grownCap w (n + m) c el - (n + m))).toList,grownCap w (n + m) c el,(g2.take _).append hus,grownCap_ge w (n + m) c el,?_,.inl ?_⟩
                  · have:=grownCap_ge w (n + m) c el
                    rw [List.length_append,List.length_append,hul,grown,hlt,← Nat.add_mul,← Nat.add_mul]
                    congr 1; omega
                  · rw [hrun]
                    congr 3
                    apply Array.ext'; simp
              · simp at h
            · simp at h
          · simp at h
      · simp at h
    · simp at h
  · simp at h
theorem toRows_ok {sh:List (Option IntKind)}:∀ (m:Nat) (cs:List MV) (l:List (List Int)),toRows sh m cs = some l → m * sh.length ≤ cs.length → l.length = m ∧ l.flatMap (recC sh 0) = cs.take (m * sh.length)
  | 0,cs,l,h,_ => by simp [toRows] at h; subst h; simp
  | m + 1,cs,l,h,hle => by
    rw [Nat.add_mul,Nat.one_mul] at hle
    unfold toRows at h
    split at h
    · rename_i r l' h1 h2
      injection h with h; subst h
      obtain ⟨g1,g2⟩:=toRows_ok m _ l' h2 (by rw [List.length_drop]; omega)
      obtain ⟨k1,k2⟩:=cellsOf_get _ _ _ h1
      have hr:recC sh 0 r = cs.take sh.length:=by
        apply List.ext_getElem?
        intro j
        rw [recC_getV]
        by_cases hj:j < sh.length
        · obtain ⟨s,e1,e2⟩:=k2 j _ (List.getElem?_eq_getElem (by rw [List.length_take]; omega))
          rw [Nat.zero_add] at e1
          rw [e1,List.getElem?_eq_getElem (by rw [List.length_take]; omega),e2,Nat.zero_add]
          rfl
        · have:sh[j]? = none:=by simp; omega
          rw [this,List.getElem?_eq_none (by rw [List.length_take]; omega)]
          rfl
      refine ⟨by simp [g1],?_⟩
      rw [List.flatMap_cons,hr,g2,Nat.add_mul,Nat.one_mul,Nat.add_comm (m * sh.length),List.take_add]
    · cases h
theorem recs_atoms (sh:List (Option IntKind)) (l:List (List Int)):(l.flatMap (recC sh 0)).all MV.atom = true:=by
  rw [List.all_eq_true]
  intro x hx
  obtain ⟨r,_,hr⟩:=List.mem_flatMap.1 hx
  obtain ⟨j,hj,rfl⟩:=List.mem_iff_getElem.1 hr
  have h1:=List.getElem?_eq_getElem hj
  rw [recC_getV] at h1
  obtain ⟨s,_,e⟩:=Option.map_eq_some_iff.1 h1
  rw [← e]
  exact (cellV_atom _ _).1
theorem rowsN_ok {sh:List (Option IntKind)} {rd:Nat → Option Blk} {w:World} {s m:Nat} {y:MV} {v:Value} {l:List (List Int)} (h:rowsN sh rd s y = (true,some (m,l))) (hs:s = sh.length) (hs0:0 < s) (hy:RV σ y v) (hr:Reads σ w rd) :
    l.length = m ∧ ∃ A c us,v = .slice A m c ∧ RVs σ (l.flatMap (recC sh 0)) us ∧ us.length = m * s ∧ (0 < m → ∃ a,A = some a ∧ ∀ j u,us[j]? = some u → w.cell? (a.add j) = some u):=by
  subst hs
  have key:∀ b o g (k:Blk),rd b = some k → σ b = some g → o + m * sh.length ≤ k.cells.length → ∃ us,RVs σ ((k.cells.drop o).take (m * sh.length)) us ∧ us.length = m * sh.length ∧ ∀ j u,us[j]? = some u → w.cell? ((⟨g,σ.off b + o,none⟩:Addr).add j) = some u:=by
    intro b o g k hk hg hle
    obtain ⟨pre,cs,rest,⟨tyh,frh,h1,_⟩,h2,_,h4,_⟩:=hr.at hk hg
    have hl:=h2.length
    refine ⟨(cs.drop o).take (m * sh.length),(h2.drop o).take _,by simp; omega,fun j u hj => ?_⟩
    rw [List.getElem?_take] at hj
    split at hj
    · exact cell_of h1 (by rw [h4]) hj
    · cases hj
  have sl:∀ b o g (k:Blk),rd b = some k → σ b = some g → o + m * sh.length ≤ k.cells.length → toRows sh m ((k.cells.drop o).take (m * sh.length)) = some l →
      l.length = m ∧ ∃ us,RVs σ (l.flatMap (recC sh 0)) us ∧ us.length = m * sh.length ∧ ∀ j u,us[j]? = some u → w.cell? ((⟨g,σ.off b + o,none⟩:Addr).add j) = some u:=by
    intro b o g k hk hg hle ht
    obtain ⟨us,g1,g2,g3⟩:=key b o g k hk hg hle
    obtain ⟨k1,k2⟩:=toRows_ok m _ l ht (by rw [List.length_take,List.length_drop]; omega)
    rw [List.take_take,Nat.min_self] at k2
    exact ⟨k1,us,by rw [k2]; exact g1,g2,g3⟩
  have rc:∀ b (k:Blk),rd b = some k → k.rec? = some (sh,l) → l.length = m → ∀ (A:Option Addr),(0 < m → ∃ g,σ b = some g ∧ A = some ⟨g,σ.off b,none⟩) →
      ∃ us,RVs σ (l.flatMap (recC sh 0)) us ∧ us.length = m * sh.length ∧ (0 < m → ∃ a,A = some a ∧ ∀ j u,us[j]? = some u → w.cell? (a.add j) = some u):=by
    intro b k hk hrec hlm A hA
    have hcl:=Blk.rec_cells hrec
    have hlen:=recs_len sh l
    rcases Nat.eq_zero_or_pos m with h0 | h0
    · have:l = []:=List.length_eq_zero_iff.1 (by omega)
      subst this
      exact ⟨[],by simp [RVs],by simp [h0],fun hp => by omega⟩
    · obtain ⟨g,hg,eA⟩:=hA h0
      obtain ⟨us,g1,g2,g3⟩:=key b 0 g k hk hg (by rw [hcl,hlen,hlm]; omega)
      rw [List.drop_zero,hcl,List.take_of_length_le (by rw [hlen,hlm]; omega)] at g1
      exact ⟨us,g1,g2,fun _ => ⟨_,eA,g3⟩⟩
  unfold rowsN at h
  split at h
  · rename_i b o m' c
    simp only [Prod.mk.injEq,true_and] at h
    split at h
    · rename_i k hk
      split at h
      · rename_i hle
        split at h
        · rename_i l' ht
          simp only [Option.some.injEq,Prod.mk.injEq] at h
          obtain ⟨rfl,rfl⟩:=h
          obtain ⟨g,hg,rfl⟩:=hy.sl_inv
          obtain ⟨k1,us,k2,k3,k4⟩:=sl b o g k hk hg hle ht
          exact ⟨k1,_,c,us,rfl,k2,k3,fun _ => ⟨_,rfl,k4⟩⟩
        · cases h
      · cases h
    · cases h
  · rename_i b m' z
    split at h
    · rename_i sh' l' hrec
      simp only [Prod.mk.injEq,beq_iff_eq] at h
      obtain ⟨h1,h2⟩:=h
      cases hd:(decide (sh' = sh) && (z == sh.length)) with
      | false => rw [hd] at h2; cases h2
      | true =>
        rw [hd] at h2
        simp only [cond_true,Option.some.injEq,Prod.mk.injEq] at h2
        obtain ⟨rfl,rfl⟩:=h2
        simp only [Bool.and_eq_true,decide_eq_true_eq,beq_iff_eq] at hd
        obtain ⟨rfl,rfl⟩:=hd
        obtain ⟨k,hk,hk2⟩:=Option.bind_eq_some_iff.1 hrec
        obtain ⟨A,c,rfl,_,hA⟩:=hy.va_inv
        obtain ⟨us,g1,g2,g3⟩:=rc b k hk hk2 h1 A (fun hp => by obtain ⟨g,e1,e2⟩:=hA hp; exact ⟨g,e1,by simpa using e2⟩)
        exact ⟨h1,A,c,us,rfl,g1,g2,g3⟩
    · cases h
  · rename_i b m' z
    split at h
    · rename_i sh' l' hrec
      simp only [Prod.mk.injEq,beq_iff_eq] at h
      obtain ⟨h1,h2⟩:=h
      cases hd:(decide (sh' = sh) && (z == sh.length)) with
      | false => rw [hd] at h2; cases h2
      | true =>
        rw [hd] at h2
        simp only [cond_true,Option.some.injEq,Prod.mk.injEq] at h2
        obtain ⟨rfl,rfl⟩:=h2
        simp only [Bool.and_eq_true,decide_eq_true_eq,beq_iff_eq] at hd
        obtain ⟨rfl,rfl⟩:=hd
        obtain ⟨k,hk,hk2⟩:=Option.bind_eq_some_iff.1 hrec
        obtain ⟨A,c,rfl,hnc,_,hA⟩:=hy.gv_inv
        obtain ⟨us,g1,g2,g3⟩:=rc b k hk hk2 h1 A (fun hp => by obtain ⟨g,e1,e2,_⟩:=hA (by omega); exact ⟨g,e1,e2⟩)
        exact ⟨h1,A,c,us,rfl,g1,g2,g3⟩
    · cases h
  · cases h
theorem run_app0 {t ty el:Nat} {i:TypeInfo} (hu:P.underlying t = some (.slice el)) (hi:P.info? el = some i) (A B:Option Addr) (n c d:Nat) (hn:n ≤ c) (w:World) :
    (Builtin.append_ #[t,t] ty #[.slice A n c,.slice B 0 d]).run P w = .ok (.slice A n c) w:=by
  have hf:∀ a:Addr,(Builtin.firstCells i.size 0 (.slice (some a) 0 d)).run P w = .ok #[] w:=fun a => run_firstCells_some (P:=P) w i.size 0 a 0 d [] (by simp) (by intro j v hj; simp at hj)
  have hg:(Builtin.firstCells i.size 0 (.slice none 0 d)).run P w = .ok #[] w:=by simp [Builtin.firstCells]
  cases A <;> cases B <;> simp [Builtin.append_,run_underlying hu,sizeOf,typeInfo,hi,Builtin.lenOf,hf,hg,storeCells,hn]
theorem shapeOf_len:∀ (l:List Value) (sh:List (Option IntKind)),shapeOf l = some sh → sh.length = l.length ∧ ∀ (j:Nat) v,l[j]? = some v → ∃ s,sh[j]? = some s ∧ cellV s 0 = .val v
  | [],sh,h => by simp [shapeOf] at h; subst h; exact ⟨rfl,by intro j v hj; simp at hj⟩
  | x :: l,sh,h => by
    unfold shapeOf at h
    split at h
    · rename_i h0; cases h0
    · rename_i k l' h0
      injection h0 with h1 h2
      subst h2
      split at h
      · rename_i sh' hs
        injection h with h; subst h
        obtain ⟨g1,g2⟩:=shapeOf_len l sh' hs
        refine ⟨by simp [g1],fun j v hj => ?_⟩
        cases j with
        | zero => simp only [List.getElem?_cons_zero,Option.some.injEq] at hj; subst hj; exact ⟨_,rfl,by rw [h1]; rfl⟩
        | succ j => exact g2 j v (by simpa using hj)
      · cases h
    · rename_i l' h0
      injection h0 with h1 h2
      subst h2
      split at h
      · rename_i sh' hs
        injection h with h; subst h
        obtain ⟨g1,g2⟩:=shapeOf_len l sh' hs
        refine ⟨by simp [g1],fun j v hj => ?_⟩
        cases j with
        | zero => simp only [List.getElem?_cons_zero,Option.some.injEq] at hj; subst hj; exact ⟨_,rfl,by rw [h1]; rfl⟩
        | succ j => exact g2 j v (by simpa using hj)
      · cases h
    · cases h
theorem setRow_same {w:World} {g:Nat} {cs:Array Value} {t:TypeId} {fr:Nat × Nat} (h:w.heap[g]? = some (.cells cs t fr)):w.setRow g cs = w:=by
  have e:(w.setRow g cs).heap = w.heap:=by
    apply Array.ext_getElem?
    intro j
    by_cases hj:j = g
    · subst hj; rw [setRow_heap w j cs cs t fr h,h]
    · exact setRow_other w g j cs hj
  show ({ w with heap:=(w.setRow g cs).heap }:World) = w
  rw [e]
theorem appR_ok {t ty:Nat} {rd:Nat → Option Blk} {w:World} {x y:MV} {u v:Value} {r:Res} (h:appR P t rd x y = (true,some r)) (hx:RV σ x u) (hy:RV σ y v) (hr:Reads σ w rd) :
    ∃ old sh l el n sz,r = .appR old sh l el n sz ∧ ∃ us rest c,RVs σ (l.flatMap (recC sh 0)) us ∧ n ≤ c ∧ c * sz = (us ++ rest).length ∧ n = l.length ∧ sz = sh.length ∧ 0 < sz ∧
      ((0 < n ∧ (Builtin.append_ #[t,t] ty #[u,v]).run P w = .ok (.slice (some ⟨w.heap.size,0,none⟩) n c) (w.drew.alloc (.cells (us ++ rest).toArray el (0,0)))) ∨
       (0 < n ∧ ∃ b k g,old = some b ∧ rd b = some k ∧ k.ro = false ∧ k.ty = el ∧ k.cells ≠ [] ∧ σ b = some g ∧ σ.κ b = (us ++ rest).length ∧ (Builtin.append_ #[t,t] ty #[u,v]).run P w = .ok (.slice (some ⟨g,0,none⟩) n c) (w.setRow g (us ++ rest).toArray)) ∨
       (n = 0 ∧ ∃ A,(Builtin.append_ #[t,t] ty #[u,v]).run P w = .ok (.slice A 0 0) w)):=by
  unfold appR at h
  split at h
  case h_2 => cases h
  rename_i el hu
  split at h
  case h_2 => cases h
  rename_i i sh hi hsh
  split at h
  case h_2 => cases h
  rename_i c1 m news hn
  split at h
  · cases h
  rename_i hbad
  have hs0:0 < i.size:=Nat.pos_of_ne_zero fun e => hbad (.inl e)
  have hss:sh.length = i.size:=Decidable.byContradiction fun e => hbad (.inr (.inl e))
  have hby:i.bytes ≤ 2 ^ 20:=Nat.not_lt.1 fun e => hbad (.inr (.inr e))
  have bytes:∀ k,k ≤ 2 ^ 25 → k * i.bytes ≤ 140737488355328:=fun k hk => Nat.le_trans (Nat.mul_le_mul hk hby) (by decide)
  obtain ⟨zs,hz,hz2⟩:=Option.bind_eq_some_iff.1 hsh
  unfold zeroCells at hz
  rw [hi] at hz
  simp only [Option.bind_some] at hz
  obtain ⟨z,hz0,hz1⟩:=Option.map_eq_some_iff.1 hz
  have hzs:z.cells.size = i.size:=by
    rw [← hss,(shapeOf_len _ _ hz2).1,← hz1]; simp
  have grown:∀ k old,(Builtin.zeroCells z.cells (grownCap w k old el - k)).toList.length = (grownCap w k old el - k) * i.size:=by
    intro k old; rw [Array.length_toList,size_zeroCells,hzs]
  have h4:∀ {c1},c1 = true → rowsN sh rd i.size y = (c1,some (m,news)) → m ≤ 16777216 → _:=fun hc hn' (hm:m ≤ 16777216) => rowsN_ok (by rw [hn',hc]) hss.symm hs0 hy hr
  split at h
  · -- nil
    simp only [Prod.mk.injEq,Bool.and_eq_true,decide_eq_true_eq] at h
    obtain ⟨⟨hc1,hm⟩,h⟩:=h
    injection h with h; subst h
    obtain ⟨hlen,A,c,us,rfl,g1,g2,g3⟩:=h4 hc1 hn hm
    have hxu:=hx.val_inv
    subst hxu
    rcases Nat.eq_zero_or_pos m with h0 | h0
    · subst h0
      have:news = []:=List.length_eq_zero_iff.1 hlen
      subst this
      exact ⟨_,_,_,_,_,_,rfl,[],[],0,by simp [RVs],Nat.le_refl _,by simp,rfl,hss.symm,hs0,.inr (.inr ⟨rfl,none,run_app0 hu hi none A 0 0 c (Nat.le_refl _) w⟩)⟩
    · obtain ⟨a,rfl,hcell⟩:=g3 h0
      have hrun:=run_append_nil (P:=P) w t ty el i z hu hi hz0 a m c us g2 hcell h0 (by omega) (Nat.le_trans (bytes m (by omega)) (by decide))
      refine ⟨_,_,_,_,_,_,rfl,us,(Builtin.zeroCells z.cells (grownCap w m 0 el - m)).toList,grownCap w m 0 el,g1,grownCap_ge w m 0 el,?_,hlen.symm,hss.symm,hs0,.inl ⟨h0,?_⟩⟩
      · have:=grownCap_ge w m 0 el
        rw [List.length_append,g2,grown,← Nat.add_mul]
        congr 1; omega
      · rw [hrun]
        congr 3
        apply Array.ext'; simp
  · -- growing
    rename_i b n z0
    split at h
    case h_2 => cases h
    rename_i sh' l ty' hk
    simp only [Prod.mk.injEq,Bool.and_eq_true,decide_eq_true_eq,beq_iff_eq] at h
    obtain ⟨⟨hc1,hm,hnb,hln⟩,h⟩:=h
    cases hd:decide (sh' = sh ∧ z0 = i.size ∧ ty' = el) with
    | false => rw [hd] at h; cases h
    | true =>
    rw [hd] at h
    simp only [cond_true] at h
    simp only [decide_eq_true_eq] at hd
    obtain ⟨rfl,rfl,rfl⟩:=hd
    injection h with h; subst h
    obtain ⟨hlen,B,d,us,rfl,g1,g2,g3⟩:=h4 hc1 hn hm
    obtain ⟨A,c,rfl,hnc,hn0,hA⟩:=hx.gv_inv
    rcases Nat.eq_zero_or_pos n with h0 | h0
    · subst h0
      have hc0:=hn0 rfl
      subst hc0
      have:l = []:=List.length_eq_zero_iff.1 hln
      subst this
      rcases Nat.eq_zero_or_pos m with h1 | h1
      · subst h1
        have:news = []:=List.length_eq_zero_iff.1 hlen
        subst this
        exact ⟨_,_,_,_,_,_,rfl,[],[],0,by simp [RVs],Nat.le_refl _,by simp,rfl,hss.symm,hs0,.inr (.inr ⟨rfl,A,run_app0 hu hi A B 0 0 d (Nat.le_refl _) w⟩)⟩
      · obtain ⟨a,rfl,hcell⟩:=g3 h1
        rw [Nat.zero_add]
        refine ⟨_,_,_,_,_,_,rfl,us,(Builtin.zeroCells z.cells (grownCap w m 0 ty' - m)).toList,grownCap w m 0 ty',by simpa using g1,grownCap_ge w m 0 ty',?_,by simp [hlen],hss.symm,hs0,.inl ⟨h1,?_⟩⟩
        · have:=grownCap_ge w m 0 ty'
          rw [List.length_append,g2,grown,← Nat.add_mul]
          congr 1; omega
        · cases A with
          | none =>
            have hrun:=run_append_nil (P:=P) w t ty ty' i z hu hi hz0 a m d us g2 hcell h1 (by omega) (Nat.le_trans (bytes m (by omega)) (by decide))
            rw [hrun]
            congr 3
            apply Array.ext'; simp
          | some A =>
            have hrun:=run_append_grow (P:=P) w t ty ty' i z hu hi hz0 A 0 0 [] (by simp) (by intro j v hj; simp at hj) a m d us g2 hcell (by omega) (by omega) (growslice_fits (by omega) (bytes _ (by omega)))
            rw [Nat.zero_add] at hrun
            rw [hrun]
            congr 3
            apply Array.ext'; simp
    · obtain ⟨g,hg,rfl,hcap⟩:=hA (by omega)
      obtain ⟨hoff,cs,rest,q1,q2,q3⟩:=hr.own hk rfl hg
      have hl:=q2.length
      have hrl:=recs_len sh' l
      rw [Blk.cells_recs,hrl,hln,hss] at hl
      rw [hoff]
      have hcs:cs.take (n * i.size) = cs:=List.take_of_length_le (by omega)
      have hne:(⟨.recs sh' l,ty'⟩:Blk).cells ≠ []:=by
        rw [Blk.cells_recs]
        intro e0
        rw [e0] at hrl
        simp only [List.length_nil] at hrl
        have:=Nat.mul_pos h0 hs0
        rw [hln,hss] at hrl
        omega
      have hall:RVs σ ((l ++ news).flatMap (recC sh' 0)) (cs ++ us):=by
        rw [List.flatMap_append]
        exact q2.append g1
      have hsum:n + m = (l ++ news).length:=by rw [List.length_append,hln,hlen]
      by_cases hroom:n + m ≤ c
      · have hfit:n * i.size + us.length ≤ (cs ++ rest).toArray.size:=by
          rw [g2,List.size_toArray,q3,← hcap,← Nat.add_mul]; exact Nat.mul_le_mul_right _ hroom
        refine ⟨_,_,_,_,_,_,rfl,cs ++ us,(cs ++ rest).drop (n * i.size + us.length),c,hall,hroom,?_,hsum,hss.symm,hs0,.inr (.inl ⟨by omega,b,_,g,rfl,hk,rfl,rfl,hne,hg,?_,?_⟩)⟩
        · rw [List.length_append,List.length_append,List.length_drop,q3,← hcap]
          rw [List.size_toArray,q3,← hcap] at hfit
          omega
        · rw [List.length_append,List.length_append,List.length_drop]
          rw [List.size_toArray] at hfit
          omega
        · rcases Nat.eq_zero_or_pos m with h1 | h1
          · subst h1
            have hus:us = []:=List.length_eq_zero_iff.1 (by rw [g2]; omega)
            subst hus
            rw [Nat.add_zero,run_app0 hu hi _ B n c d hnc w]
            congr 1
            have e1:cs ++ [] ++ (cs ++ rest).drop (n * i.size + ([]:List Value).length) = cs ++ rest:=by
              rw [List.append_nil,List.length_nil,Nat.add_zero,List.drop_append_of_le_length (by omega),List.drop_of_length_le (by omega),List.nil_append]
            rw [e1,setRow_same q1]
          · obtain ⟨a,rfl,hcell⟩:=g3 h1
            have hrun:=run_append_room (P:=P) w t ty ty' i hu hi g n c _ q1 a m d us g2 hcell (atoms_one (recs_atoms _ _) g1) hroom hfit
            rw [hrun]
            congr 2
            rw [show (cs ++ rest).toArray.toList = cs ++ rest from rfl,List.take_append_of_le_length (by omega),hcs]
      · have c5:c < n + m:=by omega
        have h1:0 < m:=by omega
        obtain ⟨a,rfl,hcell⟩:=g3 h1
        have hrun:=run_append_grow (P:=P) w t ty ty' i z hu hi hz0 ⟨g,0,none⟩ n c cs (by omega) (fun j u hj => cell_of (pre:=[]) (o:=0) q1 rfl (by simpa using hj)) a m d us g2 hcell c5 (by omega) (growslice_fits c5 (bytes _ (by omega)))
        refine ⟨_,_,_,_,_,_,rfl,cs ++ us,(Builtin.zeroCells z.cells (grownCap w (n + m) c ty' - (n + m))).toList,grownCap w (n + m) c ty',hall,grownCap_ge w (n + m) c ty',?_,hsum,hss.symm,hs0,.inl ⟨by omega,?_⟩⟩
        · have:=grownCap_ge w (n + m) c ty'
          rw [List.length_append,List.length_append,g2,grown,hl,← Nat.add_mul,← Nat.add_mul]
          congr 1; omega
        · rw [hrun]
          congr 3
          apply Array.ext'; simp
  · cases h
theorem made_flat (z:Array Value):∀ n:Nat,(madeCells z (n * z.size)).toList = (List.replicate n z.toList).flatten
  | 0 => by simp [madeCells]
  | n + 1 => by
    have ih:=made_flat z n
    rw [List.replicate_succ,List.flatten_cons,← ih,Nat.add_mul,Nat.one_mul,Nat.add_comm]
    unfold madeCells
    simp only [Array.toList_map,Array.toList_range]
    rw [List.range_add,List.map_append,List.map_map]
    congr 1
    · apply List.ext_getElem?
      intro j
      rw [List.getElem?_map]
      by_cases hj:j < z.size
      · rw [List.getElem?_range hj]
        simp [Nat.mod_eq_of_lt hj,hj]
      · rw [List.getElem?_eq_none (by simp; omega),List.getElem?_eq_none (by simp; omega)]
        rfl
    · apply List.map_congr_left
      intro j _
      simp
theorem zero_rows {z:Array Value} {sh:List (Option IntKind)} (h:shapeOf z.toList = some sh):∀ n:Nat,(List.replicate n (List.replicate z.size (0:Int))).flatMap (recC sh 0) = ((List.replicate n z.toList).flatten).map .val
  | 0 => by simp
  | n + 1 => by
    obtain ⟨g1,g2⟩:=shapeOf_len _ _ h
    rw [List.replicate_succ,List.flatMap_cons,zero_rows h n,List.replicate_succ,List.flatten_cons,List.map_append]
    congr 1
    apply List.ext_getElem?
    intro j
    rw [recC_getV,List.getElem?_map]
    by_cases hj:j < z.toList.length
    · obtain ⟨s,e1,e2⟩:=g2 j _ (List.getElem?_eq_getElem hj)
      rw [e1,List.getElem?_eq_getElem hj]
      simp only [Option.map_some,Option.some.injEq]
      rw [← e2]
      congr 1
      simp only [List.getD_eq_getElem?_getD,List.getElem?_replicate]
      split <;> rfl
    · have:sh[j]? = none:=by simp [g1]; simpa using hj
      rw [this,List.getElem?_eq_none (by omega)]
      rfl
theorem makeR_ok {t:Nat} {w:World} {x y:MV} {u v:Value} {r:Res} (h:makeR P t x y = (true,some r)) (hx:RV σ x u) (hy:RV σ y v) :
    ∃ sh l el n sz,r = .newR sh l el n sz false ∧ ∃ us,RVs σ (l.flatMap (recC sh 0)) us ∧ n = l.length ∧ sz = sh.length ∧ 0 < sz ∧ (Instr.makeSlice t u v).run P w = .ok (.slice (some ⟨w.heap.size,0,none⟩) n n) (w.alloc (.cells us.toArray el (0,0))):=by
  unfold makeR at h
  split at h
  case h_2 => cases h
  rename_i el k n k' n' hu
  split at h
  case h_2 => cases h
  rename_i i zs hi hz
  split at h
  case h_2 => cases h
  rename_i sh hsh
  split at h
  · cases h
  rename_i hbad
  simp only [Prod.mk.injEq,decide_eq_true_eq] at h
  obtain ⟨⟨rfl,h0,hn⟩,h⟩:=h
  injection h with h; subst h
  have hs0:0 < i.size:=Nat.pos_of_ne_zero fun e => hbad (.inl e)
  have hss:sh.length = i.size:=Decidable.byContradiction fun e => hbad (.inr (.inl e))
  have hby:i.bytes ≤ 2 ^ 20:=Nat.not_lt.1 fun e => hbad (.inr (.inr e))
  have ex:=hx.val_inv
  have ey:=hy.val_inv
  subst ex; subst ey
  unfold zeroCells at hz
  rw [hi] at hz
  simp only [Option.bind_some] at hz
  obtain ⟨z,hz0,hz1⟩:=Option.map_eq_some_iff.1 hz
  subst hz1
  have hzs:z.cells.size = i.size:=by rw [← hss,(shapeOf_len _ _ hsh).1]; simp
  have hb:(i.bytes:Int) * n ≤ 281474976710656:=by
    have h1:(i.bytes:Int) * n ≤ (1048576:Int) * n:=Int.mul_le_mul_of_nonneg_right (by omega) h0
    omega
  have hrun:=run_make (P:=P) w t el i z hu hi hz0 k k' n n h0 (Int.le_refl _) hb (by omega)
  refine ⟨_,_,_,_,_,rfl,(madeCells z.cells (n.toNat * i.size)).toList,?_,by simp,hss.symm,hs0,?_⟩
  · have e1:=zero_rows hsh n.toNat
    rw [hzs] at e1
    rw [e1]
    have e2:=made_flat z.cells n.toNat
    rw [hzs] at e2
    rw [e2]
    exact RVs.vals _
  · rw [hrun]
theorem sliceV_ok {t:Nat} {w:World} {x:MV} {lo hi:Option MV} {u:Value} {lov hiv:Option Value} {r:Res} (h:sliceV P t x lo hi = (true,some r)) (hx:RV σ x u) (hl:∀ m,lo = some m → ∃ v,lov = some v ∧ RV σ m v) (hl0:lo = none → lov = none)
    (hh:∀ m,hi = some m → ∃ v,hiv = some v ∧ RV σ m v) (hh0:hi = none → hiv = none):∃ v,r = .val v ∧ ∃ q,(Instr.sliceAt t u lov hiv none).run P w = .ok q w ∧ RV σ v q:=by
  unfold sliceV at h
  split at h
  · rename_i el hu
    split at h
    case h_2 => cases h
    rename_i s hs
    split at h
    · rename_i b i n z k h'
      simp only [Prod.mk.injEq,decide_eq_true_eq] at h
      obtain ⟨⟨h1,h2⟩,h⟩:=h
      cases hz:s == z with
      | false => rw [hz] at h; cases h
      | true =>
      rw [hz] at h
      simp only [cond_true,Option.some.injEq] at h
      subst h
      have hz':s = z:=by simpa using hz
      subst hz'
      obtain ⟨v,rfl,hv⟩:=hh _ rfl
      have ev:=hv.val_inv
      subst ev
      rw [hl0 rfl]
      obtain ⟨A,c,rfl,hnc,hA⟩:=hx.va_inv
      refine ⟨_,rfl,.slice A h'.toNat c,?_,?_⟩
      · have e1:h' ≤ (c:Int):=by omega
        have e0:A.map (fun a => a.add 0) = A:=by cases A <;> rfl
        simp [Instr.sliceAt,Instr.slice,run_underlying hu w,Instr.sliceBounds,Instr.sliceBound,asIntOf,h1,e1,run_size hs w,e0]
      · simp only [RV]
        exact ⟨A,c,rfl,by omega,fun hp => hA (by omega)⟩
    · rename_i b i n z k l'
      simp only [Prod.mk.injEq,decide_eq_true_eq] at h
      obtain ⟨⟨h1,h2⟩,h⟩:=h
      cases hz:s == z with
      | false => rw [hz] at h; cases h
      | true =>
      rw [hz] at h
      simp only [cond_true,Option.some.injEq] at h
      subst h
      have hz':s = z:=by simpa using hz
      subst hz'
      obtain ⟨v,rfl,hv⟩:=hl _ rfl
      have ev:=hv.val_inv
      subst ev
      rw [hh0 rfl]
      obtain ⟨A,c,rfl,hnc,hA⟩:=hx.va_inv
      refine ⟨_,rfl,.slice (if c = l'.toNat then A else A.map (·.add (l'.toNat * s))) (n - l'.toNat) (c - l'.toNat),?_,?_⟩
      · simp [Instr.sliceAt,Instr.slice,run_underlying hu w,Instr.sliceBounds,Instr.sliceBound,asIntOf,h1,h2,run_size hs w]
      · simp only [RV]
        refine ⟨_,_,rfl,by omega,fun hp => ?_⟩
        obtain ⟨g,hg,eA⟩:=hA (by omega)
        refine ⟨g,hg,?_⟩
        rw [if_neg (by omega),eA]
        simp only [Option.map_some,addr_add,Nat.add_mul,Nat.add_assoc]
    · cases h
  · rename_i n el hu
    split at h
    · rename_i b o
      split at h
      · rename_i s hs
        simp only [Prod.mk.injEq,Option.some.injEq,true_and] at h
        subst h
        rw [hl0 rfl,hh0 rfl]
        obtain ⟨g,hg,rfl⟩:=hx.ptr_inv
        refine ⟨_,rfl,.slice (some ⟨g,σ.off b + o,none⟩) n n,?_,by simp only [RV]; exact ⟨g,hg,rfl⟩⟩
        have e0:∀ a:Addr,a.add 0 = a:=fun _ => rfl
        simp [Instr.sliceAt,Instr.sureAddr,run_underlying hu w,Instr.sliceBounds,run_size hs w,e0]
      · cases h
    · cases h
  · cases h
theorem xop_ok {E:Eqs} (hE:EqOk P E) (o:Oper) (e:Operand → MV) (a:Act) (rd:Nat → Option Blk) (w:World) (r:Res)
    (h:xop P E o.op e rd = some r) (he:∀ x,x ∈ o.op.operands.toList → RV σ (e x) (a.eval x)) (hr:Reads σ w rd):ROk P σ w rd (execOp a.eval o) r:=by
  obtain ⟨dst,op,type,pos,after,guard⟩:=o
  simp only at h he
  cases op with
  | move x => simp only [xop] at h; injection h with h; subst h; exact ⟨_,rfl,he x (by simp [Op.operands])⟩
  | assign x => simp only [xop] at h; injection h with h; subst h; exact ⟨_,rfl,he x (by simp [Op.operands])⟩
  | pick c x y =>
    simp only [xop] at h
    split at h
    · rename_i t hc
      injection h with h; subst h
      have h1:=he c (by simp [Op.operands])
      rw [hc] at h1
      have h2:=h1.val_inv
      refine ⟨if t = true then a.eval x else a.eval y,?_,pick_ok (he x (by simp [Op.operands])) (he y (by simp [Op.operands]))⟩
      simp [execOp,h2,asBool]
    · simp at h
  | alloc t =>
    simp only [xop] at h
    split at h
    · rename_i z hz
      injection h with h; subst h
      obtain ⟨v,h1,h2⟩:=run_zero hz w
      refine ⟨z,RVs.vals z,?_⟩
      have ez0:v.cells = z.toArray:=by rw [← h2]
      simp [execOp,Instr.alloc,h1,newVar,run_newRow,newV,ez0]
    · simp at h
  | box t x =>
    simp only [xop] at h
    split at h
    · rename_i hsol
      injection h with h; subst h
      have h1:=(he x (by simp [Op.operands])).cells hsol
      refine ⟨_,h1,?_⟩
      simp [execOp,Instr.box,newVar,run_newRow,newV]
    · cases h
  | build t parts =>
    simp only [xop] at h
    split at h
    · simp at h
    · rename_i z hz
      obtain ⟨v,h1,h2⟩:=run_zero hz w
      have ez0:v.cells = z.toArray:=by rw [← h2]
      obtain ⟨p1,p2⟩:=parts_ok (e:=e) (a:=a) (σ:=σ) parts (fun x hx => he x (by simpa [Op.operands] using hx))
      split at h
      · rename_i fs hu
        split at h
        · rename_i cs hf
          split at h
          · rename_i hall
            injection h with h; subst h
            obtain ⟨vs,g1,g2⟩:=fill_ok _ _ _ _ z cs hf (RVs.vals z) p1 p2
            refine ⟨.agg vs.toArray,?_,by simp only [RV]; exact ⟨vs,g2,rfl⟩⟩
            have hp:=mapM_places hall w
            have hpl:(fun i:Nat => (fs.map fun f => (f.offset,(szT P f.type).getD 0))[i]?) = (fun i:Nat => match fs[i]? with | some (f:Field) => (szT P f.type).map (fun n => (f.offset,n)) | none => none):=by
              funext i
              rw [Array.getElem?_map]
              cases hi:fs[i]? with
              | none => rfl
              | some f =>
                have:=Array.all_eq_true_iff_forall_mem.1 hall f (Array.mem_of_getElem? hi)
                obtain ⟨n,hn⟩:=Option.isSome_iff_exists.1 this
                simp [hn]
            simp only [execOp,Instr.build,Sem.run_bind,h1,Result.andThen_ok,run_underlying hu w,hp,ez0]
            have g1':Instr.fill (fun i:Nat => (fs.map fun f => (f.offset,(szT P f.type).getD 0))[i]?) z.toArray (parts.map fun p => (p.1,a.eval p.2)).toList = some vs.toArray:=by
              rw [hpl]; exact g1
            rw [g1']
            rfl
          · simp at h
        · simp at h
      · rename_i n el hu
        split at h
        · rename_i n' hs
          split at h
          · rename_i cs hf
            injection h with h; subst h
            obtain ⟨vs,g1,g2⟩:=fill_ok _ _ _ _ z cs hf (RVs.vals z) p1 p2
            refine ⟨.agg vs.toArray,?_,by simp only [RV]; exact ⟨vs,g2,rfl⟩⟩
            simp only [execOp,Instr.build,Sem.run_bind,h1,Result.andThen_ok,run_underlying hu w,run_size hs w,ez0]
            rw [g1]
            rfl
          · simp at h
        · simp at h
      · simp at h
  | buildSlice t len parts =>
    simp only [xop] at h
    split at h
    · rename_i el hu
      split at h
      · rename_i n z hs hz
        split at h
        · rename_i h00
          obtain ⟨rfl,rfl⟩:=h00
          split at h
          · rename_i sh hsh
            split at h
            · rename_i hcc
              injection h with h; subst h
              refine ⟨[],by simp [RVs],rfl,hcc.2.symm,hcc.1,?_⟩
              simp [execOp,Instr.buildSlice,run_underlying hu w,run_size hs w,Instr.fill,run_newRow,Array.range_zero']
            · cases h
          · cases h
        split at h
        · simp at h
        · rename_i hc
          obtain ⟨v,h1,h2⟩:=run_zero hz w
          have ez0:v.cells = z.toArray:=by rw [← h2]
          obtain ⟨p1,p2⟩:=parts_ok (e:=e) (a:=a) (σ:=σ) parts (fun x hx => he x (by simpa [Op.operands] using hx))
          split at h
          · rename_i cs hf
            injection h with h; subst h
            have hz0:RVs σ ((List.range (len * n)).map fun i => .val (z.getD (i % n) undef)) ((List.range (len * n)).map fun i => z.getD (i % n) undef):=RVs.map _ _ _ (fun i _ => by simp [RV])
            obtain ⟨vs,g1,g2⟩:=fill_ok _ _ _ _ _ cs hf hz0 p1 p2
            refine ⟨vs,g2,?_⟩
            have c1:¬ len * n = 0:=fun hh => hc (.inl hh)
            have c2:¬ len * n > 2 ^ 24:=fun hh => hc (.inr (.inl hh))
            have c3:z.length = n:=Decidable.byContradiction fun hh => hc (.inr (.inr hh))
            have ez:((Array.range (len * n)).map (fun i => z.toArray[i % z.toArray.size]!)) = ((List.range (len * n)).map fun i => z.getD (i % n) undef).toArray:=by
              apply Array.ext'
              simp only [Array.toList_map,Array.toList_range,List.size_toArray,c3]
              apply List.map_congr_left
              intro i hi
              have hn:0 < n:=by
                rcases Nat.eq_zero_or_pos n with h0 | h0
                · subst h0; simp at c1
                · exact h0
              have hlt:i % n < z.length:=by rw [c3]; exact Nat.mod_lt _ hn
              simp [List.getD_eq_getElem?_getD,hlt]
            simp only [execOp,Instr.buildSlice,Sem.run_bind,h1,Result.andThen_ok,run_underlying hu w,run_size hs w,ez0,if_neg c1,if_neg c2,Sem.run_pure]
            rw [ez,g1]
            simp [run_newRow,newV]
          · simp at h
      · simp at h
    · simp at h
  | load t x =>
    simp only [xop] at h
    split at h
    · rename_i b o hx
      split at h
      · rename_i k hk
        split at h
        · rename_i v hv
          injection h with h; subst h
          have h1:=he x (by simp [Op.operands])
          rw [hx] at h1
          obtain ⟨g,hg,e1⟩:=h1.ptr_inv
          obtain ⟨pre,cs,rest,⟨tyh,frh,h2,_⟩,h3,_,hpre,_⟩:=hr.at hk hg
          obtain ⟨u,h4,h5⟩:=load_pre hv h3 h2
          rw [hpre] at h4
          refine ⟨u,?_,h5⟩
          simp [execOp,Instr.loadAt,e1,Instr.sureAddr,h4]
        · simp at h
      · simp at h
    · rename_i b z i o hx
      split at h
      · rename_i sh l hk0
        obtain ⟨kb,hk,hkr⟩:=Option.bind_eq_some_iff.1 hk0
        cases hz:sh.length == z with
        | false => rw [hz] at h; simp at h
        | true =>
          cases hi:decide (i < l.length) with
          | false => rw [hz,hi] at h; simp at h
          | true =>
            rw [hz,hi] at h
            simp only [cond_true] at h
            have hz':sh.length = z:=by simpa using hz
            have hi':i < l.length:=by simpa using hi
            split at h
            · rename_i v hv
              injection h with h; subst h
              subst hz'
              have h1:=he x (by simp [Op.operands])
              rw [hx] at h1
              obtain ⟨g,hg,e1⟩:=h1.pe_inv
              obtain ⟨pre,cs,rest,⟨tyh,frh,h2,_⟩,h3,_,hpre,_⟩:=hr.at hk hg
              rw [Blk.rec_cells hkr] at h3
              obtain ⟨u,h4,h5⟩:=load_pre (partV_rec hi' hv) h3 h2
              rw [hpre] at h4
              refine ⟨u,?_,h5⟩
              simp [execOp,Instr.loadAt,e1,Instr.sureAddr,h4]
            · simp at h
      · simp at h
    · simp at h
  | store t x y =>
    simp only [xop] at h
    split at h
    · rename_i b o hx
      split at h
      · rename_i k hk
        split at h
        · rename_i hc
          obtain ⟨c0,c1,c2,c3⟩:=hc
          injection h with h; subst h
          have h1:=he x (by simp [Op.operands])
          rw [hx] at h1
          obtain ⟨g,hg,e1⟩:=h1.ptr_inv
          obtain ⟨hoff,cs,rest,h2,h3,_⟩:=hr.own hk c0 hg
          rw [hoff,Nat.zero_add] at e1
          have h4:=(he y (by simp [Op.operands])).cells (solid_of c3)
          have hl:=h4.length
          have hl3:=h3.length
          refine ⟨g,cs ++ rest,_,k.ty,hg,h2,h4,?_,k,hk,c2,rfl,rfl,c0,rfl⟩
          have hst:=run_storeCells_at P g o k.ty (a.eval y).cells.toList 0 (cs ++ rest).toArray w h2 (by simp at hl ⊢; omega) (atoms_one c3 h4)
          have hsz:=run_size c1 w
          have hsz':(a.eval y).cells.size = (e y).cells.length:=by rw [← hl]; simp
          simp only [execOp,Instr.storeAt,e1,Instr.sureAddr,storeVar,Sem.run_bind,Sem.run_pure,Result.andThen_ok,hsz]
          rw [if_neg (by rw [hsz']; simp)]
          simp only [Sem.run_bind,Sem.run_pure,Result.andThen_ok,hst,Nat.add_zero]
        · simp at h
      · simp at h
    · rename_i b z i o hx
      split at h
      · rename_i sh l ty hk
        split at h
        · rename_i v hs1 hv
          cases hz:sh.length == z with
          | false => rw [hz] at h; simp at h
          | true =>
            cases hi:decide (i < l.length) with
            | false => rw [hz,hi] at h; simp at h
            | true =>
              rw [hz,hi] at h
              simp only [cond_true] at h
              have hz':sh.length = z:=by simpa using hz
              have hi':i < l.length:=by simpa using hi
              injection h with h; subst h
              subst hz'
              obtain ⟨_,_,hat,hcx⟩:=recC_set (r:=l.getD i []) hv
              obtain ⟨hset,hfit⟩:=recs_set hi' hv
              have h1:=he x (by simp [Op.operands])
              rw [hx] at h1
              obtain ⟨g,hg,e1⟩:=h1.pe_inv
              obtain ⟨hoff,cs,rest,h2,h3,_⟩:=hr.own hk rfl hg
              rw [hoff,Nat.zero_add] at e1
              have h4:=(he y (by simp [Op.operands])).cells (solid_of (by rw [hcx]; simp [hat]))
              rw [hcx] at h4
              have hl:=h4.length
              have hl3:=h3.length
              rw [Blk.cells_recs] at hl3
              refine ⟨g,cs ++ rest,_,ty,hg,h2,h4,?_,_,hk,hfit,hset,rfl,rfl,rfl⟩
              have hst:=run_storeCells_at P g (i * sh.length + o) ty (a.eval y).cells.toList 0 (cs ++ rest).toArray w h2 (by simp at hl ⊢; omega) (atoms_one (by simp [hat]) h4)
              have hsz:=run_size hs1 w
              have hsz':(a.eval y).cells.size = 1:=by simpa using hl
              simp only [execOp,Instr.storeAt,e1,Instr.sureAddr,storeVar,Sem.run_bind,Sem.run_pure,Result.andThen_ok,hsz]
              rw [if_neg (by rw [hsz']; simp)]
              simp only [Sem.run_bind,Sem.run_pure,Result.andThen_ok,hst,Nat.add_zero]
        · rename_i n hs1 hv
          split at h
          · rename_i vs hvs
            cases hz:(sh.length == z && decide ((e y).cells.length = n + 2)) with
            | false => rw [hz] at h; simp at h
            | true =>
              cases hi:decide (i < l.length) with
              | false => rw [hz,hi] at h; simp at h
              | true =>
                rw [hz,hi] at h
                simp only [cond_true] at h
                simp only [Bool.and_eq_true,beq_iff_eq,decide_eq_true_eq] at hz
                obtain ⟨hz',hcl⟩:=hz
                have hi':i < l.length:=by simpa using hi
                injection h with h; subst h
                subst hz'
                have hne:(e y).cells ≠ []:=by intro e0; rw [e0] at hcl; simp at hcl
                obtain ⟨_,_,hat⟩:=recC_sets (r:=l.getD i []) hvs hne
                obtain ⟨hset,hfit⟩:=recs_sets hi' hvs hne
                have h1:=he x (by simp [Op.operands])
                rw [hx] at h1
                obtain ⟨g,hg,e1⟩:=h1.pe_inv
                obtain ⟨hoff,cs,rest,h2,h3,_⟩:=hr.own hk rfl hg
                rw [hoff,Nat.zero_add] at e1
                have h4:=(he y (by simp [Op.operands])).cells (solid_of hat)
                have hl:=h4.length
                have hl3:=h3.length
                rw [Blk.cells_recs] at hl3
                refine ⟨g,cs ++ rest,_,ty,hg,h2,h4,?_,_,hk,hfit,hset,rfl,rfl,rfl⟩
                have hst:=run_storeCells_at P g (i * sh.length + o) ty (a.eval y).cells.toList 0 (cs ++ rest).toArray w h2 (by simp at hl ⊢; omega) (atoms_one hat h4)
                have hsz:=run_size hs1 w
                have hsz':(a.eval y).cells.size = n + 2:=by rw [← hcl,← hl]; simp
                simp only [execOp,Instr.storeAt,e1,Instr.sureAddr,storeVar,Sem.run_bind,Sem.run_pure,Result.andThen_ok,hsz]
                rw [if_neg (by rw [hsz']; simp)]
                simp only [Sem.run_bind,Sem.run_pure,Result.andThen_ok,hst,Nat.add_zero]
          · cases h
        · simp at h
      · simp at h
    · simp at h
  | nilCheck x =>
    simp only [xop] at h
    have h1:=he x (by simp [Op.operands])
    split at h
    · rename_i b o hx
      injection h with h; subst h
      rw [hx] at h1
      obtain ⟨g,hg,e1⟩:=h1.ptr_inv
      exact ⟨_,by simp [execOp,e1]; rfl,by rw [e1] at h1; exact h1⟩
    · rename_i b z i o hx
      injection h with h; subst h
      rw [hx] at h1
      obtain ⟨g,hg,e1⟩:=h1.pe_inv
      exact ⟨_,by simp [execOp,e1]; rfl,by rw [e1] at h1; exact h1⟩
    · rename_i f p q hx
      injection h with h; subst h
      rw [hx] at h1
      obtain ⟨xs,ys,_,_,e1⟩:=h1.fn_inv
      exact ⟨_,by simp [execOp,e1]; rfl,by rw [e1] at h1; exact h1⟩
    · simp at h
  | binOp op t x y yt =>
    simp only [xop] at h
    split at h
    · rename_i v hv
      injection h with h; subst h
      obtain ⟨u,h1,h2⟩:=bin_ok (σ:=σ) hE hv (he x (by simp [Op.operands])) (he y (by simp [Op.operands])) x y w
      refine ⟨u,?_,h2⟩
      simp only [execOp]
      rw [Sem.run_bind,h1]; rfl
    · simp at h
  | unOp op t x =>
    simp only [xop] at h
    have h1:=he x (by simp [Op.operands])
    split at h
    · rename_i k n hx
      injection h with h; subst h
      rw [hx] at h1
      have e1:=h1.val_inv
      exact ⟨_,by simp [execOp,e1,Op.unary,Op.intArith]; rfl,by simp [RV]⟩
    · rename_i b hx
      injection h with h; subst h
      rw [hx] at h1
      have e1:=h1.val_inv
      exact ⟨_,by simp [execOp,e1,Op.unary]; rfl,by simp [RV]⟩
    · simp at h
  | convert src dst x =>
    simp only [xop] at h
    have h1:=he x (by simp [Op.operands])
    split at h
    · rename_i ds kd k' n hs hd hx
      injection h with h; subst h
      rw [hx] at h1
      have e1:=h1.val_inv
      refine ⟨.int kd (kd.wrap n),?_,by simp [RV]⟩
      simp only [execOp,e1,convert,Sem.run_bind,run_underlying hs w,run_underlying hd w,Result.andThen_ok]
      cases ds <;> rfl
    · simp at h
  | makeFunc fn first cap =>
    cases fn with
    | func f =>
      simp only [xop] at h
      injection h with h; subst h
      refine ⟨_,rfl,?_⟩
      simp only [RV]
      refine ⟨(first.map a.eval).toList,(cap.map a.eval).toList,?_,?_,by congr 1⟩
      · rw [Array.toList_map]
        exact RVs.map _ _ _ (fun x hx => he x (by simp [Op.operands]; exact .inl (by simpa using hx)))
      · rw [Array.toList_map]
        exact RVs.map _ _ _ (fun x hx => he x (by simp [Op.operands]; exact .inr (by simpa using hx)))
    | _ => simp [xop] at h
  | fieldAddr s x f =>
    simp only [xop] at h
    split at h
    · rename_i b o hx
      split at h
      · rename_i fs hu
        split at h
        · rename_i fd hf
          split at h
          · rename_i n hn
            split at h
            · simp at h
            · rename_i h0
              injection h with h; subst h
              have h1:=he x (by simp [Op.operands])
              rw [hx] at h1
              obtain ⟨g,hg,e1⟩:=h1.ptr_inv
              refine ⟨.pointer (some ⟨g,σ.off b + (o + fd.offset),none⟩),?_,by simp only [RV]; exact ⟨g,hg,rfl⟩⟩
              simp [execOp,Instr.fieldAt,run_underlying hu w,hf,e1,Instr.sureAddr,fieldPlace,run_size hn w,h0,addr_add,Nat.add_assoc]
          · simp at h
        · simp at h
      · simp at h
    · rename_i b z i o hx
      split at h
      · rename_i fs hu
        split at h
        · rename_i fd hf
          split at h
          · rename_i n hn
            split at h
            · simp at h
            · rename_i h0
              injection h with h; subst h
              have h1:=he x (by simp [Op.operands])
              rw [hx] at h1
              obtain ⟨g,hg,e1⟩:=h1.pe_inv
              refine ⟨.pointer (some ⟨g,σ.off b + (i * z + (o + fd.offset)),none⟩),?_,by simp only [RV]; exact ⟨g,hg,rfl⟩⟩
              simp [execOp,Instr.fieldAt,run_underlying hu w,hf,e1,Instr.sureAddr,fieldPlace,run_size hn w,h0,addr_add,Nat.add_assoc]
          · simp at h
        · simp at h
      · simp at h
    · simp at h
  | field s x f =>
    simp only [xop] at h
    split at h
    · rename_i l hx
      split at h
      · rename_i fs hu
        split at h
        · rename_i fd hf
          split at h
          · rename_i v hv
            injection h with h; subst h
            have h1:=he x (by simp [Op.operands])
            rw [hx] at h1
            obtain ⟨us,h2,e1⟩:=h1.agg_inv
            obtain ⟨u,h3,h4⟩:=run_part hv h2 w
            refine ⟨u,?_,h4⟩
            simp [execOp,Instr.field,run_underlying hu w,hf,e1,asAgg,h3]
          · simp at h
        · simp at h
      · simp at h
    · simp at h
  | indexAddr t x i =>
    simp only [xop] at h
    split at h
    · rename_i k j hi
      have h1:=he i (by simp [Op.operands])
      rw [hi] at h1
      have e1:=h1.val_inv
      have h2:=he x (by simp [Op.operands])
      split at h
      · rename_i n el b o hu hx
        split at h
        · rename_i s hs
          split at h
          · rename_i hj
            injection h with h; subst h
            rw [hx] at h2
            obtain ⟨g,hg,e2⟩:=h2.ptr_inv
            refine ⟨.pointer (some ⟨g,σ.off b + (o + j.toNat * s),none⟩),?_,by simp only [RV]; exact ⟨g,hg,rfl⟩⟩
            simp [execOp,Instr.indexAt,e1,e2,asIntOf,run_underlying hu w,Instr.sureAddr,run_size hs w,hj,addr_add,Nat.add_assoc]
          · simp at h
        · simp at h
      · rename_i el b o n c hu hx
        split at h
        · rename_i s hs
          split at h
          · rename_i hj
            injection h with h; subst h
            rw [hx] at h2
            obtain ⟨g,hg,e2⟩:=h2.sl_inv
            refine ⟨.pointer (some ⟨g,σ.off b + (o + j.toNat * s),none⟩),?_,by simp only [RV]; exact ⟨g,hg,rfl⟩⟩
            simp [execOp,Instr.indexAt,e1,e2,asIntOf,run_underlying hu w,Instr.sureAddr,run_size hs w,hj,addr_add,Nat.add_assoc]
          · simp at h
        · simp at h
      · rename_i el b o n sz hu hx
        split at h
        · rename_i s hs
          split at h
          · rename_i hj
            injection h with h; subst h
            rw [hx] at h2
            obtain ⟨g,c,hg,e2,_⟩:=h2.gs_inv
            refine ⟨.pointer (some ⟨g,σ.off b + (o + j.toNat * s),none⟩),?_,by simp only [RV]; exact ⟨g,hg,rfl⟩⟩
            simp [execOp,Instr.indexAt,e1,e2,asIntOf,run_underlying hu w,Instr.sureAddr,run_size hs w,hj,addr_add,Nat.add_assoc]
          · simp at h
        · simp at h
      · rename_i el b i0 n z hu hx
        split at h
        · rename_i s hs
          cases hz:s == z with
          | false => rw [hz] at h; simp at h
          | true =>
            cases hjd:decide (0 ≤ j ∧ j < n) with
            | false => rw [hz,hjd] at h; simp at h
            | true =>
              rw [hz,hjd] at h
              simp only [cond_true] at h
              have hz':s = z:=by simpa using hz
              have hj:0 ≤ j ∧ j < n:=of_decide_eq_true hjd
              injection h with h; subst h
              subst hz'
              rw [hx] at h2
              obtain ⟨A,c,e2,_,hn⟩:=h2.va_inv
              obtain ⟨g,hg,eA⟩:=hn (by omega)
              refine ⟨.pointer (some ⟨g,σ.off b + ((i0 + j.toNat) * s + 0),none⟩),?_,by simp only [RV]; exact ⟨g,hg,rfl⟩⟩
              simp [execOp,Instr.indexAt,e1,e2,eA,asIntOf,run_underlying hu w,Instr.sureAddr,run_size hs w,hj,addr_add,Nat.add_mul,Nat.add_assoc]
        · simp at h
      · rename_i el b n z hu hx
        split at h
        · rename_i s hs
          cases hz:s == z with
          | false => rw [hz] at h; simp at h
          | true =>
            cases hjd:decide (0 ≤ j ∧ j < n) with
            | false => rw [hz,hjd] at h; simp at h
            | true =>
              rw [hz,hjd] at h
              simp only [cond_true] at h
              have hz':s = z:=by simpa using hz
              have hj:0 ≤ j ∧ j < n:=of_decide_eq_true hjd
              injection h with h; subst h
              subst hz'
              rw [hx] at h2
              obtain ⟨A,c,e2,hnc,_,hn⟩:=h2.gv_inv
              obtain ⟨g,hg,eA,_⟩:=hn (by omega)
              refine ⟨.pointer (some ⟨g,σ.off b + (j.toNat * s + 0),none⟩),?_,by simp only [RV]; exact ⟨g,hg,rfl⟩⟩
              simp [execOp,Instr.indexAt,e1,e2,eA,asIntOf,run_underlying hu w,Instr.sureAddr,run_size hs w,hj,addr_add]
        · simp at h
      · simp at h
    · simp at h
  | index t x i =>
    simp only [xop] at h
    split at h
    · rename_i k j hi
      have h1:=he i (by simp [Op.operands])
      rw [hi] at h1
      have e1:=h1.val_inv
      have h2:=he x (by simp [Op.operands])
      split at h
      · rename_i n el l hu hx
        split at h
        · rename_i s hs
          split at h
          · rename_i hj
            split at h
            · rename_i v hv
              injection h with h; subst h
              rw [hx] at h2
              obtain ⟨us,h3,e2⟩:=h2.agg_inv
              obtain ⟨u,h4,h5⟩:=run_part hv h3 w
              refine ⟨u,?_,h5⟩
              simp [execOp,Instr.index,e1,e2,asIntOf,run_underlying hu w,run_size hs w,hj,h4]
            · simp at h
          · simp at h
        · simp at h
      · simp at h
    · simp at h
  | extract x i =>
    simp only [xop] at h
    split at h
    · rename_i l hx
      split at h
      · rename_i v hv
        injection h with h; subst h
        have h1:=he x (by simp [Op.operands])
        rw [hx] at h1
        obtain ⟨us,h2,e1⟩:=h1.tup_inv
        obtain ⟨u,h3,h4⟩:=RVs.get i h2 hv
        exact ⟨u,by simp [execOp,Instr.extract,e1,h3],h4⟩
      · simp at h
    · simp at h
  | call c =>
    obtain ⟨callee,cargs,argTypes⟩:=c
    simp only [xop] at h
    split at h
    · rename_i f
      split at h
      · rename_i g first cap hf
        injection h with h; subst h
        rintro ⟨fn,g1,g2,g3⟩
        have h1:=he f (by simp [Op.operands,Call.operands])
        rw [hf] at h1
        obtain ⟨xs,ys,h2,h3,e1⟩:=h1.fn_inv
        refine ⟨xs ++ (cargs.map a.eval).toList ++ ys,(h2.append ?_).append h3,?_⟩
        · rw [Array.toList_map]
          exact RVs.map _ _ _ (fun x hx => he x (by simp [Op.operands,Call.operands]; exact .inr (by simpa using hx)))
        · have hcf:(callFunc g (xs.toArray ++ cargs.map a.eval ++ ys.toArray)).run P w = .ok (.enter g (xs.toArray ++ cargs.map a.eval ++ ys.toArray)) w:=by
            have g2' : ¬ fn.name = "runtime.NumGoroutine" := by simpa using g2
            have g3':¬ fn.body = none:=by intro hb; simp [hb] at g3
            simp [callFunc,program,Sem.run,g1,g2',g3']
          simp only [execOp,resolve,e1,Deferred.ofValue,Sem.run_bind,Sem.run_pure,Result.andThen_ok,invoke,hcf]
          congr 2
          apply Array.ext'
          simp
      · simp at h
    · split at h
      · rename_i t x ht hx
        split at h
        · rename_i el b o n c2 hu hxx
          injection h with h; subst h
          have h1:=he x (by simp [Op.operands,Call.operands]; exact Array.mem_of_getElem? hx)
          rw [hxx] at h1
          obtain ⟨g,hg,e1⟩:=h1.sl_inv
          refine ⟨.int .i64 n,?_,by simp only [RV]⟩
          simp [execOp,resolve,invoke,builtin,Builtin.len_,ht,hx,e1,run_underlying hu w,goInt]
        · rename_i el b o n c2 hu hxx
          injection h with h; subst h
          have h1:=he x (by simp [Op.operands,Call.operands]; exact Array.mem_of_getElem? hx)
          rw [hxx] at h1
          obtain ⟨g,c,hg,e1,_⟩:=h1.gs_inv
          refine ⟨.int .i64 n,?_,by simp only [RV]⟩
          simp [execOp,resolve,invoke,builtin,Builtin.len_,ht,hx,e1,run_underlying hu w,goInt]
        · rename_i el b i n z hu hxx
          injection h with h; subst h
          have h1:=he x (by simp [Op.operands,Call.operands]; exact Array.mem_of_getElem? hx)
          rw [hxx] at h1
          obtain ⟨A,c,e1,_⟩:=h1.va_inv
          refine ⟨.int .i64 n,?_,by simp only [RV]⟩
          simp [execOp,resolve,invoke,builtin,Builtin.len_,ht,hx,e1,run_underlying hu w,goInt]
        · rename_i el b n s hu hxx
          injection h with h; subst h
          have h1:=he x (by simp [Op.operands,Call.operands]; exact Array.mem_of_getElem? hx)
          rw [hxx] at h1
          obtain ⟨A,c,e1,_⟩:=h1.gv_inv
          refine ⟨.int .i64 n,?_,by simp only [RV]⟩
          simp [execOp,resolve,invoke,builtin,Builtin.len_,ht,hx,e1,run_underlying hu w,goInt]
        · rename_i el xx n hu hxx
          injection h with h; subst h
          have h1:=he x (by simp [Op.operands,Call.operands]; exact Array.mem_of_getElem? hx)
          rw [hxx] at h1
          obtain ⟨_,A,c,e1⟩:=h1.xs_inv
          refine ⟨.int .i64 n,?_,by simp only [RV]⟩
          simp [execOp,resolve,invoke,builtin,Builtin.len_,ht,hx,e1,run_underlying hu w,goInt]
        · rename_i el hu hxx
          injection h with h; subst h
          have h1:=he x (by simp [Op.operands,Call.operands]; exact Array.mem_of_getElem? hx)
          rw [hxx] at h1
          have h2:=h1
          simp only [RV] at h2
          obtain ⟨A,c,e1⟩:=h2
          refine ⟨.int .i64 0,?_,by simp only [RV]⟩
          simp [execOp,resolve,invoke,builtin,Builtin.len_,ht,hx,e1,run_underlying hu w,goInt]
        · rename_i el n c2 hu hxx
          injection h with h; subst h
          have h1:=he x (by simp [Op.operands,Call.operands]; exact Array.mem_of_getElem? hx)
          rw [hxx] at h1
          have e1:=h1.val_inv
          refine ⟨.int .i64 n,?_,by simp only [RV]⟩
          simp [execOp,resolve,invoke,builtin,Builtin.len_,ht,hx,e1,run_underlying hu w,goInt]
        · simp at h
      · simp at h
    · split at h
      · rename_i x y hx
        split at h
        · rename_i k a k' b hxa hyb
          injection h with h; subst h
          have eb:cargs = #[x,y]:=by apply Array.ext'; simpa using hx
          subst eb
          have h1:=he x (by simp [Op.operands,Call.operands])
          have h2:=he y (by simp [Op.operands,Call.operands])
          rw [hxa] at h1
          rw [hyb] at h2
          refine ⟨.int k (if b < a then b else a),?_,by simp only [RV]⟩
          simp [execOp,resolve,invoke,builtin,Builtin.min_,Builtin.min2,h1.val_inv,h2.val_inv]
        · simp at h
      · simp at h
    · split at h
      · rename_i x y hx
        split at h
        · rename_i k a k' b hxa hyb
          injection h with h; subst h
          have eb:cargs = #[x,y]:=by apply Array.ext'; simpa using hx
          subst eb
          have h1:=he x (by simp [Op.operands,Call.operands])
          have h2:=he y (by simp [Op.operands,Call.operands])
          rw [hxa] at h1
          rw [hyb] at h2
          refine ⟨.int k (if a < b then b else a),?_,by simp only [RV]⟩
          simp [execOp,resolve,invoke,builtin,Builtin.max_,Builtin.max2,h1.val_inv,h2.val_inv]
        · simp at h
      · simp at h
    · split at h
      · rename_i t t' x y ht hx
        split at h
        · rename_i htt
          subst htt
          have ea:argTypes = #[t,t]:=by apply Array.ext'; simpa using ht
          have eb:cargs = #[x,y]:=by apply Array.ext'; simpa using hx
          subst ea; subst eb
          split at h
          · generalize hap:appR P t rd (e x) (e y) = ap at h
            obtain ⟨c0,r0⟩:=ap
            cases c0 with
            | false => cases h
            | true =>
              simp only [cond_true] at h
              subst h
              obtain ⟨old,sh,l,el,n,sz,rfl,us,rest,c,g1,g2,g3,g5,g6,g7,g4⟩:=appR_ok (ty:=type) hap (he x (by simp [Op.operands,Call.operands])) (he y (by simp [Op.operands,Call.operands])) hr
              refine ⟨us,rest,c,g1,g2,g3,g5,g6,g7,?_⟩
              rcases g4 with ⟨g8,g4⟩ | ⟨g8,b,k,g,k1,k2,k2',k3,k4,k5,k6,k7⟩ | ⟨g8,A,g9⟩
              · exact .inl ⟨g8,by simp [execOp,resolve,invoke,builtin,g4]⟩
              · exact .inr (.inl ⟨g8,b,k,g,k1,k2,k2',k3,k4,k5,k6,by simp [execOp,resolve,invoke,builtin,k7]⟩)
              · exact .inr (.inr ⟨g8,A,by simp [execOp,resolve,invoke,builtin,g9]⟩)
          obtain ⟨old,cells,el,n,sz,rfl,us,rest,c,g1,g2,g3,g4⟩:=app_ok (ty:=type) h (he x (by simp [Op.operands,Call.operands])) (he y (by simp [Op.operands,Call.operands])) hr
          refine ⟨us,rest,c,g1,g2,g3,?_⟩
          rcases g4 with g4 | ⟨b,k,g,k1,k2,k2',k3,k4,k5,k6,k7⟩
          · exact .inl (by simp [execOp,resolve,invoke,builtin,g4])
          · exact .inr ⟨b,k,g,k1,k2,k2',k3,k4,k5,k6,by simp [execOp,resolve,invoke,builtin,k7]⟩
        · simp at h
      · simp at h
    · simp at h
  | makeSlice t l c =>
    simp only [xop] at h
    generalize hm:makeR P t (e l) (e c) = mk at h
    obtain ⟨c0,r0⟩:=mk
    cases c0 with
    | false => cases h
    | true =>
      simp only [cond_true] at h
      subst h
      obtain ⟨sh,rs,el,n,sz,rfl,us,g1,g2,g3,g4,g5⟩:=makeR_ok (w:=w) hm (he l (by simp [Op.operands])) (he c (by simp [Op.operands]))
      exact ⟨us,g1,g2,g3,g4,by simp [execOp,g5]⟩
  | slice t x lo hi mx =>
    cases mx with
    | some m => simp [xop] at h
    | none =>
      simp only [xop] at h
      generalize hm:sliceV P t (e x) (lo.map e) (hi.map e) = mk at h
      obtain ⟨c0,r0⟩:=mk
      cases c0 with
      | false => cases h
      | true =>
        simp only [cond_true] at h
        subst h
        obtain ⟨v,rfl,q,g1,g2⟩:=sliceV_ok (w:=w) (lov:=lo.map a.eval) (hiv:=hi.map a.eval) hm (he x (by simp [Op.operands])) (fun m hm => by
            obtain ⟨y,rfl,rfl⟩:=Option.map_eq_some_iff.1 hm
            exact ⟨_,rfl,he y (by simp [Op.operands])⟩) (fun hm => by rw [Option.map_eq_none_iff] at hm; rw [hm]; rfl) (fun m hm => by
            obtain ⟨y,rfl,rfl⟩:=Option.map_eq_some_iff.1 hm
            exact ⟨_,rfl,he y (by simp [Op.operands])⟩) (fun hm => by rw [Option.map_eq_none_iff] at hm; rw [hm]; rfl)
        exact ⟨q,by simp [execOp,g1],g2⟩
  | _ => simp [xop] at h
end
end Go.Proofs.Ytppklhfiajjhmaa.Y
end
section
namespace Go.Proofs.Ytppklhfiajjhmaa.Y
open Go Go.RowKit
set_option linter.unusedVariables false
set_option linter.unusedSimpArgs false
abbrev KV:=MV → Option Out
abbrev KM:=MV → Mem → Option Out
abbrev KS:=List MV → Mem → Option Out
structure Ctx where
 q:Nat → Option (List MV → (Nat → Option Blk) → KV → Option Out)
 i:Nat → Option (List MV → Mem → KM → Option Out)
 n:Nat → Option (List MV → (Nat → Option Blk) → (Blk → (Nat → MV) → Option Out) → Option Out)
 env:Bs → World → (Nat → Value) → Prop
def rdM (m:Mem) (b:Nat):Option Blk:=(m[b]?).join
mutual
def refs:MV → List Nat
 | .val _ => []
 | .ptr b _ => [b]
 | .sl b _ _ _ => [b]
 | .gs b _ _ _ => [b]
 | .fn _ x y => refsL x ++ refsL y
 | .agg l => refsL l
 | .tup l => refsL l
 | .pe b _ _ _ => [b]
 | .va b _ _ _ => [b]
 | .xs _ _ => []
 | .es => []
 | .any => []
 | .gv b _ _ => [b]
 | .ext _ => []
 | .junk => []
def refsL:List MV → List Nat
 | [] => []
 | x :: l => refs x ++ refsL l
end
def refsB (k:Blk):List Nat:=match k.row with
 | .lst l => refsL l
 | .rlst l => refsL l
 | _ => []
def reach (rd:Nat → Option Blk) (args:List MV):List Nat:=refsL args ++ (refsL args).flatMap (fun b => match rd b with
 | some k => refsB k
 | none => [])
theorem reach_l {rd:Nat → Option Blk} {args:List MV} {b:Nat} (h:b ∈ refsL args):b ∈ reach rd args:=List.mem_append_left _ h
theorem reach_r {rd:Nat → Option Blk} {args:List MV} {a b:Nat} {k:Blk} (h:a ∈ refsL args) (hk:rd a = some k) (hb:b ∈ refsB k):b ∈ reach rd args:=by
 refine List.mem_append_right _ (List.mem_flatMap.2 ⟨a,h,?_⟩)
 simp only [hk]; exact hb
def newM:Option (Nat × Nat) → Nat → MV
 | none,b => .ptr b 0
 | some (n,c),b => .sl b 0 n c
def Reads1 (σ:Sg) (w:World) (b:Nat) (k:Blk):Prop:=∀ (g:Nat),σ b = some g → ∃ (pre cs rest:List Value),AtH w g k (pre ++ (cs ++ rest)) ∧ RVs σ k.cells cs ∧ (cs ++ rest).length = σ.κ b ∧ pre.length = σ.off b ∧ (k.ro = false → pre = [])
def QOk (P:Program) (X:Bs → World → (Nat → Value) → Prop) (f:Nat) (G:List MV → (Nat → Option Blk) → KV → Option Out):Prop :=
 ∀ args rd k r,G args rd k = some r → ∃ v,k v = some r ∧ ∀ base w0 σ us w,X base w0 σ.x → Bel base w0 w → base.n ≤ w.heap.size → RVs σ args us → (∀ b k,b ∈ reach rd args → rd b = some k → Reads1 σ w b k) →
  Calls P f us.toArray w fun e w' => ∃ u,e = .returned u ∧ RV σ v u ∧ Below w.heap.size w w'
def Fresh (σ:Sg) (w w':World) (blk:Blk) (vf:Nat → MV) (u:Value):Prop :=
 (∃ (g:Nat) (cs rest:List Value),w.heap.size ≤ g ∧ w'.heap[g]? = some (.cells (cs ++ rest).toArray blk.ty (0,0)) ∧ RVs σ blk.cells cs ∧
  ∀ τ b,Ext σ τ → τ b = some g → τ.κ b = (cs ++ rest).length → τ.off b = 0 → RV τ (vf b) u) ∨
 (∀ τ b,Ext σ τ → RV τ (vf b) u)
def NOk (P:Program) (X:Bs → World → (Nat → Value) → Prop) (f:Nat) (G:List MV → (Nat → Option Blk) → (Blk → (Nat → MV) → Option Out) → Option Out):Prop :=
 ∀ args rd k r,G args rd k = some r → ∃ blk vf,k blk vf = some r ∧ blk.ro = false ∧ ∀ base w0 σ us w,X base w0 σ.x → Bel base w0 w → base.n ≤ w.heap.size → RVs σ args us → (∀ b k,b ∈ reach rd args → rd b = some k → Reads1 σ w b k) →
  Calls P f us.toArray w fun e w' => ∃ u,e = .returned u ∧ Fresh σ w w' blk vf u ∧ Below w.heap.size w w'
def IOk (P:Program) (X:Bs → World → (Nat → Value) → Prop) (f:Nat) (G:List MV → Mem → KM → Option Out):Prop :=
 ∀ args m k r,G args m k = some r → ∀ base w0 σ us w,X base w0 σ.x → RVs σ args us → RM base w0 σ m w →
  Calls P f us.toArray w fun e w' => ∃ v m' σ' u,k v m' = some r ∧ e = .returned u ∧ Ext σ σ' ∧ RV σ' v u ∧ RM base w0 σ' m' w'
structure COk (P:Program) (C:Ctx):Prop where
 q:∀ f G,C.q f = some G → QOk P C.env f G ∧ FnOk P f
 n:∀ f G,C.n f = some G → NOk P C.env f G ∧ FnOk P f
 i:∀ f G,C.i f = some G → IOk P C.env f G ∧ FnOk P f
def fl {α β:Type}:List α → (List α → β) → β
 | [],k => k []
 | x :: l,k => fl l (fun l => k (x :: l))
theorem fl_eq {α β:Type}:∀ (l:List α) (k:List α → β),fl l k = k l
 | [],k => rfl
 | x :: l,k => by rw [fl,fl_eq l]
def fv {β:Type} (v:MV) (k:MV → β):β :=
 match v with
 | .val (.int a n) => k (.val (.int a n))
 | .val (.bool b) => k (.val (.bool b))
 | .val x => k (.val x)
 | .ptr b o => k (.ptr b o)
 | .sl b o n c => k (.sl b o n c)
 | .gs b o n s => k (.gs b o n s)
 | .fn f x y => k (.fn f x y)
 | .agg l => fl l (fun l => k (.agg l))
 | .tup l => fl l (fun l => k (.tup l))
 | .pe b s i o => k (.pe b s i o)
 | .va b i n s => k (.va b i n s)
 | .xs x n => k (.xs x n)
 | .es => k .es
 | .any => k .any
 | .gv b n s => k (.gv b n s)
 | .ext i => k (.ext i)
 | .junk => k .junk
theorem fv_eq {β:Type} (v:MV) (k:MV → β):fv v k = k v:=by
 unfold fv
 split <;> first | rfl | rw [fl_eq]
def fb {β:Type} (b:Blk) (k:Blk → β):β :=
 match b with
 | ⟨.lst l,ty⟩ => fl l (fun l => k ⟨.lst l,ty⟩)
 | ⟨.recs sh l,ty⟩ => k ⟨.recs sh l,ty⟩
 | ⟨.rlst l,ty⟩ => k ⟨.rlst l,ty⟩
 | ⟨.rrecs sh l,ty⟩ => k ⟨.rrecs sh l,ty⟩
theorem fb_eq {β:Type} (b:Blk) (k:Blk → β):fb b k = k b:=by
 unfold fb
 split <;> first | rfl | rw [fl_eq]
def kill (m:Mem):Option Nat → Mem
 | none => m
 | some b => match m[b]? with
  | some (some k) => bif k.ro then m else m.set b (some ⟨.lst [],k.ty⟩)
  | _ => m
def xact (C:Ctx) (o:Oper) (tm:List MV) (m:Mem) (k:KS) (res:Option Res):Option Out :=
 match res with
 | some (.val v) => fv v (fun v => fl (put tm o.dst v) (fun tm => k tm m))
 | some (.new cells ty row) => fl cells (fun cells => fl (put tm o.dst (newM row m.length)) (fun tm => fl (m ++ [some ⟨.lst cells,ty⟩]) (fun m => k tm m)))
 | some (.put b off vs blk) => fb blk (fun blk => fl (put tm o.dst (.val undef)) (fun tm => fl (m.set b (some blk)) (fun m => k tm m)))
 | some (.call f args) => match C.q f with
  | some G => G args (rdM m) (fun v => fv v (fun v => fl (put tm o.dst v) (fun tm => k tm m)))
  | none => match C.n f with
   | some G => G args (rdM m) (fun blk vf => fb blk (fun blk => fv (vf m.length) (fun v => fl (put tm o.dst v) (fun tm => fl (m ++ [some blk]) (fun m => k tm m)))))
   | none => match C.i f with
    | some G => G args m (fun v m' => fv v (fun v => fl (put tm o.dst v) (fun tm => k tm m')))
    | none => none
 | some (.app old cells ty n sz) => fl cells (fun cells => fl (put tm o.dst (.gs m.length 0 n sz)) (fun tm => fl (kill m old ++ [some ⟨.lst cells,ty⟩]) (fun m => k tm m)))
 | some (.appR old sh l ty n sz) => fl (put tm o.dst (.gv m.length n sz)) (fun tm => fl (kill m old ++ [some ⟨.recs sh l,ty⟩]) (fun m => k tm m))
 | some (.newR sh l ty n sz gr) => fl (put tm o.dst (bif gr then .gv m.length n sz else .va m.length 0 n sz)) (fun tm => fl (m ++ [some ⟨.recs sh l,ty⟩]) (fun m => k tm m))
 | none => none
def xdo (P:Program) (E:Eqs) (C:Ctx) (o:Oper) (tm:List MV) (m:Mem) (k:KS):Option Out :=
 match xopC P E o.op (ev tm) (rdM m) with
 | (c,q) => bif c then xact C o tm m k q else none
def way (want b:Bool) (x y:Option Out):Option Out:=bif want then (bif b then x else y) else (bif b then y else x)
theorem way_eq (want b:Bool) (x y:Option Out):way want b x y = bif b == want then x else y:=by cases want <;> cases b <;> rfl
def xone (P:Program) (E:Eqs) (C:Ctx) (ops:Array Oper) (o:Oper) (tm:List MV) (m:Mem) (k:KS):Option Out :=
 match o.guard with
 | none => xdo P E C o tm m k
 | some (j,want) => match (ops[j]?).bind (·.dst) with
  | some d => match tm[d]? with
   | some (.val (.bool b)) => way want b (xdo P E C o (tm.set d (.val (.bool want))) m k) (k (put (tm.set d (.val (.bool (!want)))) o.dst (.val undef)) m)
   | some (.val (.tuple _)) => k (put tm o.dst (.val undef)) m
   | _ => none
  | none => none
def xops (P:Program) (E:Eqs) (C:Ctx) (ops:Array Oper):List Oper → List MV → Mem → KS → Option Out
 | [],tm,m,k => k tm m
 | o :: rest,tm,m,k => xone P E C ops o tm m (fun tm m => xops P E C ops rest tm m k)
section
variable {P:Program} {E:Eqs} {C:Ctx} {base:Bs} {w0:World}
theorem RM.reads {σ:Sg} {m:Mem} {w:World} (h:RM base w0 σ m w):Reads σ w (rdM m):=by
 intro b k g hb hg
 unfold rdM at hb
 cases hm:m[b]? with
 | none => simp [hm] at hb
 | some x =>
  cases x with
  | none => simp [hm] at hb
  | some k' =>
   simp [hm] at hb
   subst hb
   exact h.blk b k' g hm hg
theorem RM.lt {σ:Sg} {m:Mem} {w:World} (h:RM base w0 σ m w) {b g:Nat} (hb:σ b = some g):g < w.heap.size:=by
 obtain ⟨k,hk⟩:=h.dom b g hb
 obtain ⟨pre,cs,rest,h2,_⟩:=h.blk b k g hk hb
 exact h2.lt
theorem RM.own {σ:Sg} {m:Mem} {w:World} (h:RM base w0 σ m w) {b:Nat} {k:Blk} (hk:m[b]? = some (some k)) (hro:k.ro = false) {g:Nat} (hg:σ b = some g):σ.off b = 0 ∧ ∃ cs rest:List Value,w.heap[g]? = some (.cells (cs ++ rest).toArray k.ty (0,0)) ∧ RVs σ k.cells cs ∧ (cs ++ rest).length = σ.κ b:=by
 obtain ⟨pre,cs,rest,h1,h2,h3,h4,h5⟩:=h.blk b k g hk hg
 have:=h5 hro
 subst this
 have h1':=h1.own hro
 exact ⟨by simpa using h4.symm,cs,rest,by simpa using h1',h2,h3⟩
theorem RM.call {σ:Sg} {m:Mem} {w w':World} (h:RM base w0 σ m w) (hb:Below w.heap.size w w'):RM base w0 σ m w':=by
 refine ⟨fun b k g hk h1 => ?_,h.inj,h.dom,h.lo,h.hi,?_,Nat.le_trans h.base hb.size⟩
 ·obtain ⟨pre,cs,rest,h2,h3⟩:=h.blk b k g hk h1
  exact ⟨pre,cs,rest,h2.step (hb.block g h2.lt),h3⟩
 ·exact h.bel.below hb h.base
theorem RM.drew {σ:Sg} {m:Mem} {w:World} (h:RM base w0 σ m w):RM base w0 σ m { w with drawn:=w.drawn + 1 } :=
 ⟨h.blk,h.inj,h.dom,h.lo,h.hi,⟨h.bel.os,h.bel.tape,h.bel.output,h.bel.size,h.bel.block⟩,h.base⟩
def extend (σ:Sg) (b g n:Nat):Sg:=⟨fun c => if c = b then some g else σ c,fun c => if c = b then n else σ.κ c,σ.x,fun c => if c = b then 0 else σ.off c⟩
theorem extend_ext {σ:Sg} {b g n:Nat} (h:σ b = none):Ext σ (extend σ b g n):=by
 refine ⟨rfl,?_⟩
 intro c x hc
 have:c ≠ b:=by intro e; subst e; rw [h] at hc; cases hc
 refine ⟨?_,?_,?_⟩
 ·show (if c = b then some g else σ c) = some x
  rw [if_neg this]; exact hc
 ·show (if c = b then n else σ.κ c) = σ.κ c
  rw [if_neg this]
 ·show (if c = b then 0 else σ.off c) = σ.off c
  rw [if_neg this]
theorem extend_off (σ:Sg) (b g n:Nat):(extend σ b g n).off b = 0:=by show (if b = b then 0 else σ.off b) = 0; simp
theorem extend_at (σ:Sg) (b g n:Nat):extend σ b g n b = some g:=by show (if b = b then some g else σ b) = some g; simp
theorem extend_cap (σ:Sg) (b g n:Nat):(extend σ b g n).κ b = n:=by show (if b = b then n else σ.κ b) = n; simp
theorem extend_ne {σ:Sg} {b g n c:Nat} (h:c ≠ b):extend σ b g n c = σ c:=by show (if c = b then some g else σ c) = σ c; simp [h]
theorem RM.newAt {σ:Sg} {m m':Mem} {w:World} (h:RM base w0 σ m w) {b:Nat} {blk:Blk} {us rest:List Value} (hu:RVs σ blk.cells us)
  (hro:blk.ro = false) (hb:∀ k,m[b]? ≠ some (some k)) (hm:m'[b]? = some (some blk)) (ho:∀ c,c ≠ b → ∀ k,m'[c]? = some (some k) ↔ m[c]? = some (some k)) :
  σ b = none ∧ RM base w0 (extend σ b w.heap.size (us ++ rest).length) m' (w.alloc (.cells (us ++ rest).toArray blk.ty (0,0))):=by
 have hn:σ b = none:=by
  cases hs:σ b with
  | none => rfl
  | some g => obtain ⟨k,hk⟩:=h.dom b g hs; exact absurd hk (hb k)
 have hx:=extend_ext (g:=w.heap.size) (n:=(us ++ rest).length) hn
 have he:=extend_at σ b w.heap.size (us ++ rest).length
 have hne:∀ c,c ≠ b → extend σ b w.heap.size (us ++ rest).length c = σ c:=fun c hc => extend_ne hc
 refine ⟨hn,⟨fun c k x hk hcx => ?_,fun c d g kc kd hkc hkd r1 r2 h1 h2 h3 h4 => ?_,fun c g hc => ?_,fun c g k hk hc hr => ?_,fun c g k hk hc hr => ?_,?_,?_⟩⟩
 ·by_cases e:c = b
  ·subst e
   rw [hm] at hk
   simp only [Option.some.injEq] at hk
   subst hk
   rw [he] at hcx
   injection hcx with hcx
   subst hcx
   refine ⟨[],us,rest,?_,RVs.ext hx _ _ hu,(extend_cap σ c _ _).symm,(extend_off σ c _ _).symm,fun _ => rfl⟩
   apply AtH.mk
   show (w.heap.push _)[w.heap.size]? = _
   simp
  ·rw [hne c e] at hcx
   obtain ⟨pre,cs,rs,h2,h3,h4,h5,h6⟩:=h.blk c k x ((ho c e k).1 hk) hcx
   refine ⟨pre,cs,rs,?_,RVs.ext hx _ _ h3,by rw [(hx.to _ _ hcx).2.1,h4],by rw [(hx.to _ _ hcx).2.2,h5],h6⟩
   exact h2.step (Below.heap_alloc _ _ _ h2.lt)
 ·by_cases e1:c = b
  ·by_cases e2:d = b
   ·rw [e1,e2]
   ·subst e1
    rw [he] at h3
    rw [hne d e2] at h4
    injection h3 with h3
    have:=h.lt h4
    omega
  ·by_cases e2:d = b
   ·subst e2
    rw [he] at h4
    rw [hne c e1] at h3
    injection h4 with h4
    have:=h.lt h3
    omega
   ·rw [hne c e1] at h3
    rw [hne d e2] at h4
    exact h.inj c d g kc kd ((ho c e1 kc).1 hkc) ((ho d e2 kd).1 hkd) r1 r2 h1 h2 h3 h4
 ·by_cases e:c = b
  ·subst e; exact ⟨_,hm⟩
  ·rw [hne c e] at hc
   obtain ⟨k,hk⟩:=h.dom c g hc
   exact ⟨k,(ho c e k).2 hk⟩
 ·by_cases e:c = b
  ·subst e
   rw [he] at hc
   injection hc with hc
   subst hc
   exact .inl h.base
  ·rw [hne c e] at hc
   exact h.lo c g k ((ho c e k).1 hk) hc hr
 ·by_cases e:c = b
  ·subst e
   rw [hm] at hk
   simp only [Option.some.injEq] at hk
   subst hk
   rw [hro] at hr
   cases hr
  ·rw [hne c e] at hc
   exact h.hi c g k ((ho c e k).1 hk) hc hr
 ·exact h.bel.below (Below.alloc (Below.refl _ _) (Nat.le_refl _) _) h.base
 ·have:=h.base
  simp
  omega
theorem RM.newCall {σ:Sg} {m m':Mem} {w w':World} (h:RM base w0 σ m w) (hb':Below w.heap.size w w') {b g:Nat} {blk:Blk} {us rest:List Value} (hu:RVs σ blk.cells us)
  (hg:w.heap.size ≤ g) (hw:w'.heap[g]? = some (.cells (us ++ rest).toArray blk.ty (0,0))) (hro:blk.ro = false) (hb:∀ k,m[b]? ≠ some (some k)) (hm:m'[b]? = some (some blk)) (ho:∀ c,c ≠ b → ∀ k,m'[c]? = some (some k) ↔ m[c]? = some (some k)) :
  Ext σ (extend σ b g (us ++ rest).length) ∧ RM base w0 (extend σ b g (us ++ rest).length) m' w':=by
 have hn:σ b = none:=by
  cases hs:σ b with
  | none => rfl
  | some g => obtain ⟨k,hk⟩:=h.dom b g hs; exact absurd hk (hb k)
 have hx:=extend_ext (g:=g) (n:=(us ++ rest).length) hn
 have he:=extend_at σ b g (us ++ rest).length
 have hne:∀ c,c ≠ b → extend σ b g (us ++ rest).length c = σ c:=fun c hc => extend_ne hc
 have h':=h.call hb'
 refine ⟨hx,⟨fun c k x hk hcx => ?_,fun c d y kc kd hkc hkd r1 r2 h1 h2 h3 h4 => ?_,fun c y hc => ?_,fun c y k hk hc hr => ?_,fun c y k hk hc hr => ?_,h'.bel,h'.base⟩⟩
 ·by_cases e:c = b
  ·subst e
   rw [hm] at hk
   simp only [Option.some.injEq] at hk
   subst hk
   rw [he] at hcx
   injection hcx with hcx
   subst hcx
   exact ⟨[],us,rest,AtH.mk hw,RVs.ext hx _ _ hu,(extend_cap σ c _ _).symm,(extend_off σ c _ _).symm,fun _ => rfl⟩
  ·rw [hne c e] at hcx
   obtain ⟨pre,cs,rs,h2,h3,h4,h5,h6⟩:=h'.blk c k x ((ho c e k).1 hk) hcx
   exact ⟨pre,cs,rs,h2,RVs.ext hx _ _ h3,by rw [(hx.to _ _ hcx).2.1,h4],by rw [(hx.to _ _ hcx).2.2,h5],h6⟩
 ·by_cases e1:c = b
  ·by_cases e2:d = b
   ·rw [e1,e2]
   ·subst e1
    rw [he] at h3
    rw [hne d e2] at h4
    injection h3 with h3
    have:=h.lt h4
    omega
  ·by_cases e2:d = b
   ·subst e2
    rw [he] at h4
    rw [hne c e1] at h3
    injection h4 with h4
    have:=h.lt h3
    omega
   ·rw [hne c e1] at h3
    rw [hne d e2] at h4
    exact h.inj c d y kc kd ((ho c e1 kc).1 hkc) ((ho d e2 kd).1 hkd) r1 r2 h1 h2 h3 h4
 ·by_cases e:c = b
  ·subst e; exact ⟨_,hm⟩
  ·rw [hne c e] at hc
   obtain ⟨k,hk⟩:=h.dom c y hc
   exact ⟨k,(ho c e k).2 hk⟩
 ·by_cases e:c = b
  ·subst e
   rw [he] at hc
   injection hc with hc
   subst hc
   exact .inl (Nat.le_trans h.base hg)
  ·rw [hne c e] at hc
   exact h.lo c y k ((ho c e k).1 hk) hc hr
 ·by_cases e:c = b
  ·subst e
   rw [hm] at hk
   simp only [Option.some.injEq] at hk
   subst hk
   rw [hro] at hr
   cases hr
  ·rw [hne c e] at hc
   exact h.hi c y k ((ho c e k).1 hk) hc hr
theorem RM.newNone {σ:Sg} {m m':Mem} {w:World} (h:RM base w0 σ m w) {b:Nat} {blk:Blk} (hb:∀ k,m[b]? ≠ some (some k)) (hm:m'[b]? = some (some blk)) (ho:∀ c,c ≠ b → ∀ k,m'[c]? = some (some k) ↔ m[c]? = some (some k)) :
  RM base w0 σ m' w:=by
 have hn:σ b = none:=by
  cases hs:σ b with
  | none => rfl
  | some g => obtain ⟨k,hk⟩:=h.dom b g hs; exact absurd hk (hb k)
 have ne:∀ c g,σ c = some g → c ≠ b:=by intro c g hc e; subst e; rw [hn] at hc; cases hc
 exact ⟨fun c k x hk hcx => h.blk c k x ((ho c (ne c x hcx) k).1 hk) hcx,fun c d y kc kd hkc hkd r1 r2 h1 h2 h3 h4 => h.inj c d y kc kd ((ho c (ne c y h3) kc).1 hkc) ((ho d (ne d y h4) kd).1 hkd) r1 r2 h1 h2 h3 h4,
  fun c y hc => by obtain ⟨k,hk⟩:=h.dom c y hc; exact ⟨k,(ho c (ne c y hc) k).2 hk⟩,fun c y k hk hc hr => h.lo c y k ((ho c (ne c y hc) k).1 hk) hc hr,fun c y k hk hc hr => h.hi c y k ((ho c (ne c y hc) k).1 hk) hc hr,h.bel,h.base⟩
theorem RM.fresh {σ:Sg} {m m':Mem} {w w':World} (h:RM base w0 σ m w) (hb':Below w.heap.size w w') {b:Nat} {blk:Blk} {vf:Nat → MV} {u:Value} (hf:Fresh σ w w' blk vf u) (hro:blk.ro = false)
  (hb:∀ k,m[b]? ≠ some (some k)) (hm:m'[b]? = some (some blk)) (ho:∀ c,c ≠ b → ∀ k,m'[c]? = some (some k) ↔ m[c]? = some (some k)) :
  ∃ τ,Ext σ τ ∧ RV τ (vf b) u ∧ RM base w0 τ m' w':=by
 rcases hf with ⟨g,cs,rest,h1,h2,h3,h4⟩ | h4
 ·obtain ⟨hx,hr⟩:=h.newCall hb' h3 h1 h2 hro hb hm ho
  exact ⟨_,hx,h4 _ b hx (extend_at _ _ _ _) (extend_cap _ _ _ _) (extend_off _ _ _ _),hr⟩
 ·exact ⟨σ,Ext.refl σ,h4 σ b (Ext.refl σ),(h.call hb').newNone hb hm ho⟩
theorem newV_ok {σ:Sg} {b g n:Nat} (row:Option (Nat × Nat)):RV (extend σ b g n) (newM row b) (newV row g):=by
 have ho:=extend_off σ b g n
 cases row with
 | none => simp only [newM,newV,RV]; exact ⟨g,extend_at σ b g n,by rw [ho]⟩
 | some p => obtain ⟨n',c⟩:=p; simp only [newM,newV,RV]; exact ⟨g,extend_at σ b g n,by rw [ho]⟩
theorem RM.put {σ:Sg} {m m':Mem} {w:World} (h:RM base w0 σ m w) {b off g t:Nat} {blk:Blk} {vs:List MV} {cs us:List Value}
  (hb:m[b]? = some (some blk)) (hg:σ b = some g) (hc:w.heap[g]? = some (.cells cs.toArray t (0,0))) (hu:RVs σ vs us) (hfit:off + vs.length ≤ blk.cells.length) {blk':Blk}
  (hm:m'[b]? = some (some blk')) (hkc:blk'.cells = blk.cells.take off ++ vs ++ blk.cells.drop (off + vs.length)) (hkt:blk'.ty = blk.ty) (hro:blk.ro = false) (hro':blk'.ro = false) (ho:∀ c,c ≠ b → ∀ k,m'[c]? = some (some k) ↔ m[c]? = some (some k)) :
  RM base w0 σ m' (w.setRow g (cs.take off ++ us ++ cs.drop (off + us.length)).toArray):=by
 obtain ⟨hoff,cs',rs,h2,h3,h4⟩:=h.own hb hro hg
 rw [hc] at h2
 simp only [Option.some.injEq,Obj.cells.injEq,and_true] at h2
 obtain ⟨e1,e2⟩:=h2
 have e3:cs = cs' ++ rs:=by have:=congrArg Array.toList e1; simpa using this
 subst e3; subst e2
 have hl:=hu.length
 have hl3:=h3.length
 have eT:(cs' ++ rs).take off = cs'.take off:=List.take_append_of_le_length (by omega)
 have eD:(cs' ++ rs).drop (off + us.length) = cs'.drop (off + us.length) ++ rs:=List.drop_append_of_le_length (by omega)
 have erow:(cs' ++ rs).take off ++ us ++ (cs' ++ rs).drop (off + us.length) = (cs'.take off ++ us ++ cs'.drop (off + us.length)) ++ rs:=by rw [eT,eD]; simp
 have hlen:((cs'.take off ++ us ++ cs'.drop (off + us.length)) ++ rs).length = (cs' ++ rs).length:=by simp; omega
 rw [erow]
 have hcell:blk'.cells.length = blk.cells.length:=by rw [hkc]; simp; omega
 have hnil:blk.cells = [] → (cs'.take off ++ us ++ cs'.drop (off + us.length)) ++ rs = cs' ++ rs:=by
  intro e
  rw [e] at hfit hl3
  simp at hfit hl3
  have:us = []:=List.eq_nil_of_length_eq_zero (by rw [hl,hfit.2]; rfl)
  subst this
  simp [hl3]
 refine ⟨fun c k gx hk hgx => ?_,fun c d x kc kd hkc hkd r1 r2 n1 n2 s1 s2 => ?_,fun c x hx => ?_,fun c x k hk hc hr => ?_,fun c x k hk hc hr => ?_,?_,?_⟩
 ·by_cases e:c = b
  ·subst e
   rw [hm] at hk
   simp only [Option.some.injEq] at hk
   subst hk
   rw [hg] at hgx
   injection hgx with hgx
   subst hgx
   refine ⟨[],_,rs,AtH.mk (by rw [hkt]; exact setRow_heap w g _ _ _ _ hc),?_,by rw [hlen,h4],by rw [hoff]; rfl,fun _ => rfl⟩
   rw [hl,hkc]
   exact ((h3.take off).append hu).append (h3.drop _)
  ·have hk0:=(ho c e k).1 hk
   obtain ⟨g2,h5⟩:∃ g2,σ c = some g2:=⟨gx,hgx⟩
   have e9:gx = g2:=by rw [hgx] at h5; injection h5
   subst e9
   obtain ⟨pre2,cs2,rs2,h6,h7,h8,h9,h10⟩:=h.blk c k gx hk0 h5
   by_cases eg:gx = g
   ·subst eg
    obtain ⟨ty6,fr6,h6,h6b⟩:=h6
    rw [hc] at h6
    simp only [Option.some.injEq,Obj.cells.injEq,and_true] at h6
    obtain ⟨f1,f2,rfl⟩:=h6
    have f3:cs' ++ rs = pre2 ++ (cs2 ++ rs2):=by have:=congrArg Array.toList f1; simpa using this
    by_cases d1:blk.cells = []
    ·refine ⟨pre2,cs2,rs2,?_,h7,h8,h9,h10⟩
     exact ⟨ty6,(0,0),by rw [setRow_heap w gx _ _ _ _ hc,hnil d1,f3,f2],h6b⟩
    ·by_cases d2:k.cells = []
     ·have:cs2 = []:=List.eq_nil_of_length_eq_zero (by rw [h7.length,d2]; rfl)
      subst this
      have hL:((cs'.take off ++ us ++ cs'.drop (off + us.length)) ++ rs).length = pre2.length + rs2.length:=by rw [hlen,f3]; simp
      refine ⟨((cs'.take off ++ us ++ cs'.drop (off + us.length)) ++ rs).take pre2.length,[],((cs'.take off ++ us ++ cs'.drop (off + us.length)) ++ rs).drop pre2.length,?_,h7,?_,?_,?_⟩
      ·exact ⟨ty6,(0,0),by rw [setRow_heap w gx _ _ _ _ hc,List.nil_append,List.take_append_drop,f2],h6b⟩
      ·rw [List.nil_append,List.length_drop,hL,← h8]; simp
      ·rw [List.length_take,hL,← h9]; omega
      ·intro hr; rw [h10 hr]; rfl
     ·cases hkr:k.ro with
      | false => exact absurd (h.inj c b gx k blk hk0 hb hkr hro d2 d1 h5 hg) e
      | true =>
       have a1:=h.hi c gx k hk0 h5 hkr d2
       have a2:=h.lo b gx blk hb hg hro
       exact absurd a2 a1
   ·refine ⟨pre2,cs2,rs2,?_,h7,h8,h9,h10⟩
    exact h6.step (setRow_other w g gx _ eg)
 ·have live:∀ (y:Nat) (ky:Blk),m'[y]? = some (some ky) → ky.ro = false → ky.cells ≠ [] → ∃ k0:Blk,m[y]? = some (some k0) ∧ k0.ro = false ∧ k0.cells ≠ []:=by
   intro y ky hy ry ny
   by_cases e:y = b
   ·subst e
    rw [hm] at hy
    simp only [Option.some.injEq] at hy
    subst hy
    refine ⟨blk,hb,hro,fun e0 => ny ?_⟩
    refine List.eq_nil_of_length_eq_zero ?_
    rw [hcell,e0]; rfl
   ·exact ⟨ky,(ho y e ky).1 hy,ry,ny⟩
  obtain ⟨k1,a1,a0,a2⟩:=live c kc hkc r1 n1
  obtain ⟨k2,b1,b0,b2⟩:=live d kd hkd r2 n2
  exact h.inj c d x k1 k2 a1 b1 a0 b0 a2 b2 s1 s2
 ·by_cases e:c = b
  ·subst e; exact ⟨_,hm⟩
  ·obtain ⟨k,hk⟩:=h.dom c x hx
   exact ⟨k,(ho c e k).2 hk⟩
 ·by_cases e:c = b
  ·subst e
   exact h.lo c x blk hb hc hro
  ·exact h.lo c x k ((ho c e k).1 hk) hc hr
 ·by_cases e:c = b
  ·subst e
   rw [hm] at hk
   simp only [Option.some.injEq] at hk
   subst hk
   rw [hro'] at hr
   cases hr
  ·exact h.hi c x k ((ho c e k).1 hk) hc hr
 ·have:=h.lo b g blk hb hg hro
  exact h.bel.trans ⟨rfl,rfl,rfl,by simp,fun k hk => setRow_other w g k _ (by intro e; subst e; exact hk this)⟩
 ·have:=h.base
  simpa using this
theorem RM.grow {σ:Sg} {m:Mem} {w:World} (h:RM base w0 σ m w) {b g:Nat} {k:Blk} {nb:Blk} {us rest:List Value}
  (hb:m[b]? = some (some k)) (hro:k.ro = false) (hk:k.cells ≠ []) (hg:σ b = some g) (hu:RVs σ nb.cells us) (hnt:nb.ty = k.ty) (hnr:nb.ro = false) (hc:σ.κ b = (us ++ rest).length) :
  σ m.length = none ∧ RM base w0 (extend σ m.length g (us ++ rest).length) (kill m (some b) ++ [some nb]) (w.setRow g (us ++ rest).toArray):=by
 have hlt:b < m.length:=(List.getElem?_eq_some_iff.1 hb).1
 have ek:kill m (some b) = m.set b (some ⟨.lst [],k.ty⟩):=by unfold kill; simp only [hb,hro,cond_false]
 rw [ek]
 have hn:σ m.length = none:=by
  cases hs:σ m.length with
  | none => rfl
  | some x => obtain ⟨k',hk'⟩:=h.dom _ _ hs; simp at hk'
 have hx:=extend_ext (g:=g) (n:=(us ++ rest).length) hn
 have he:=extend_at σ m.length g (us ++ rest).length
 obtain ⟨hoff,cs0,rs0,a2,a3,a4⟩:=h.own hb hro hg
 -- what stands in the new memory
 have get:∀ (c:Nat) (kc:Blk),(m.set b (some ⟨.lst [],k.ty⟩) ++ [some nb]:Mem)[c]? = some (some kc) → (c = m.length ∧ kc = nb) ∨ (c = b ∧ kc = ⟨.lst [],k.ty⟩) ∨ (c ≠ b ∧ c ≠ m.length ∧ m[c]? = some (some kc)):=by
  intro c kc hc'
  rcases Nat.lt_trichotomy c m.length with hl | hl | hl
  ·rw [List.getElem?_append_left (by simpa using hl)] at hc'
   by_cases e:c = b
   ·subst e
    rw [List.getElem?_set_self hlt] at hc'
    simp only [Option.some.injEq] at hc'
    exact .inr (.inl ⟨rfl,hc'.symm⟩)
   ·rw [List.getElem?_set_ne (Ne.symm e)] at hc'
    exact .inr (.inr ⟨e,by omega,hc'⟩)
  ·subst hl
   rw [List.getElem?_append_right (by simp)] at hc'
   simp only [List.length_set,Nat.sub_self,List.getElem?_cons_zero,Option.some.injEq] at hc'
   exact .inl ⟨rfl,hc'.symm⟩
  ·rw [List.getElem?_eq_none (by simp; omega)] at hc'
   cases hc'
 have cne:∀ c,c ≠ m.length → extend σ m.length g (us ++ rest).length c = σ c:=fun c hc => extend_ne hc
 refine ⟨hn,⟨fun c kc gx hkc hgx => ?_,fun c d x kc kd hkc hkd r1 r2 n1 n2 s1 s2 => ?_,fun c x hc' => ?_,fun c x kc hkc hc' hr => ?_,fun c x kc hkc hc' hr => ?_,?_,?_⟩⟩
 ·rcases get c kc hkc with ⟨rfl,rfl⟩ | ⟨rfl,rfl⟩ | ⟨e1,e2,hm⟩
  ·rw [he] at hgx
   injection hgx with hgx
   subst hgx
   exact ⟨[],us,rest,AtH.mk (by rw [hnt]; exact setRow_heap w g _ _ _ _ a2),RVs.ext hx _ _ hu,(extend_cap σ _ _ _).symm,(extend_off σ _ _ _).symm,fun _ => rfl⟩
  ·rw [(hx.to _ _ hg).1] at hgx
   injection hgx with hgx
   subst hgx
   refine ⟨[],[],us ++ rest,AtH.mk (setRow_heap w g _ _ _ _ a2),by simp [RVs],?_,by rw [(hx.to _ _ hg).2.2,hoff]; rfl,fun _ => rfl⟩
   rw [(hx.to _ _ hg).2.1,hc]; rfl
  ·obtain ⟨g2,b1⟩:∃ g2,σ c = some g2:=⟨gx,by rw [cne c e2] at hgx; exact hgx⟩
   have e9:gx = g2:=by rw [cne c e2,b1] at hgx; injection hgx with hgx; exact hgx.symm
   subst e9
   obtain ⟨pre2,cs2,rs2,b2,b3,b4,b5,b6⟩:=h.blk c kc gx hm b1
   by_cases eg:gx = g
   ·subst eg
    by_cases d2:kc.cells = []
    ·have:cs2 = []:=List.eq_nil_of_length_eq_zero (by rw [b3.length,d2]; rfl)
     subst this
     obtain ⟨ty2,fr2,b2,b2b⟩:=b2
     rw [a2] at b2
     simp only [Option.some.injEq,Obj.cells.injEq,and_true] at b2
     obtain ⟨f1,f2,rfl⟩:=b2
     have f3:cs0 ++ rs0 = pre2 ++ ([] ++ rs2):=by have:=congrArg Array.toList f1; simpa using this
     have hL:(us ++ rest).length = pre2.length + rs2.length:=by rw [← hc,← a4,f3]; simp
     refine ⟨(us ++ rest).take pre2.length,[],(us ++ rest).drop pre2.length,?_,by rw [d2]; simp [RVs],?_,?_,?_⟩
     ·exact ⟨ty2,(0,0),by rw [setRow_heap w gx _ _ _ _ a2,List.nil_append,List.take_append_drop,f2],b2b⟩
     ·rw [(hx.to _ _ b1).2.1,← b4,List.nil_append,List.length_drop,hL]; simp
     ·rw [(hx.to _ _ b1).2.2,← b5,List.length_take,hL]; omega
     ·intro hr; rw [b6 hr]; rfl
    ·cases hkr:kc.ro with
     | false => exact absurd (h.inj c b gx kc k hm hb hkr hro d2 hk b1 hg) e1
     | true =>
      have f1:=h.hi c gx kc hm b1 hkr d2
      have f2:=h.lo b gx k hb hg hro
      exact absurd f2 f1
   ·refine ⟨pre2,cs2,rs2,?_,RVs.ext hx _ _ b3,by rw [(hx.to _ _ b1).2.1,b4],by rw [(hx.to _ _ b1).2.2,b5],b6⟩
    exact b2.step (setRow_other w g gx _ eg)
 ·rcases get c kc hkc with ⟨rfl,rfl⟩ | ⟨rfl,rfl⟩ | ⟨e1,e2,hm⟩
  ·rcases get d kd hkd with ⟨rfl,rfl⟩ | ⟨rfl,rfl⟩ | ⟨f1,f2,hm2⟩
   ·rfl
   ·exact absurd rfl n2
   ·rw [he] at s1
    injection s1 with s1
    rw [cne d f2,← s1] at s2
    exact absurd (h.inj d b g kd k hm2 hb r2 hro n2 hk s2 hg) f1
  ·exact absurd rfl n1
  ·rcases get d kd hkd with ⟨rfl,rfl⟩ | ⟨rfl,rfl⟩ | ⟨f1,f2,hm2⟩
   ·rw [he] at s2
    injection s2 with s2
    rw [cne c e2,← s2] at s1
    exact absurd (h.inj c b g kc k hm hb r1 hro n1 hk s1 hg) e1
   ·exact absurd rfl n2
   ·rw [cne c e2] at s1
    rw [cne d f2] at s2
    exact h.inj c d x kc kd hm hm2 r1 r2 n1 n2 s1 s2
 ·by_cases e:c = m.length
  ·subst e; exact ⟨nb,by rw [List.getElem?_append_right (by simp)]; simp⟩
  ·rw [cne c e] at hc'
   obtain ⟨k',hk'⟩:=h.dom c x hc'
   have hcl:c < m.length:=(List.getElem?_eq_some_iff.1 hk').1
   rw [List.getElem?_append_left (by simpa using hcl)]
   by_cases e1:c = b
   ·subst e1; exact ⟨_,List.getElem?_set_self hlt⟩
   ·exact ⟨k',by rw [List.getElem?_set_ne (Ne.symm e1)]; exact hk'⟩
 ·rcases get c kc hkc with ⟨rfl,rfl⟩ | ⟨rfl,rfl⟩ | ⟨e1,e2,hm⟩
  ·rw [he] at hc'
   injection hc' with hc'
   subst hc'
   exact h.lo b g k hb hg hro
  ·rw [(hx.to _ _ hg).1] at hc'
   injection hc' with hc'
   subst hc'
   exact h.lo c g k hb hg hro
  ·rw [cne c e2] at hc'
   exact h.lo c x kc hm hc' hr
 ·rcases get c kc hkc with ⟨rfl,rfl⟩ | ⟨rfl,rfl⟩ | ⟨e1,e2,hm⟩
  ·rw [hnr] at hr; cases hr
  ·cases hr
  ·rw [cne c e2] at hc'
   exact h.hi c x kc hm hc' hr
 ·have:=h.lo b g k hb hg hro
  exact h.bel.trans ⟨rfl,rfl,rfl,by simp,fun k' hk' => setRow_other w g k' _ (by intro e; subst e; exact hk' this)⟩
 ·have:=h.base
  simpa using this
theorem app_get {m:Mem} {x:Option Blk} {c:Nat} (hc:c ≠ m.length) (k:Blk):(m ++ [x])[c]? = some (some k) ↔ m[c]? = some (some k):=by
 rcases Nat.lt_or_ge c m.length with hl | hl
 ·rw [List.getElem?_append_left hl]
 ·have:m[c]? = none:=by simp; omega
  rw [this]
  simp
  intro h9
  rw [List.getElem?_append_right hl] at h9
  cases hq:c - m.length with
  | zero => omega
  | succ q => rw [hq] at h9; simp at h9
theorem RM.kill {σ:Sg} {m:Mem} {w:World} (h:RM base w0 σ m w) (old:Option Nat):RM base w0 σ (kill m old) w:=by
 unfold Y.kill
 split
 ·exact h
 ·rename_i b
  split
  ·rename_i k hb
   cases hro:k.ro with
   | true => exact h
   | false =>
   simp only [cond_false]
   have hlt:b < m.length:=(List.getElem?_eq_some_iff.1 hb).1
   have get:∀ (c:Nat) (kc:Blk),(m.set b (some ⟨.lst [],k.ty⟩):Mem)[c]? = some (some kc) → (c = b ∧ kc = ⟨.lst [],k.ty⟩) ∨ (c ≠ b ∧ m[c]? = some (some kc)):=by
    intro c kc hc'
    by_cases e:c = b
    ·subst e
     rw [List.getElem?_set_self hlt] at hc'
     simp only [Option.some.injEq] at hc'
     exact .inl ⟨rfl,hc'.symm⟩
    ·rw [List.getElem?_set_ne (Ne.symm e)] at hc'
     exact .inr ⟨e,hc'⟩
   refine ⟨fun c kc g hkc hg => ?_,fun c d x kc kd hkc hkd r1 r2 n1 n2 s1 s2 => ?_,fun c x hx => ?_,fun c x kc hkc hc hr => ?_,fun c x kc hkc hc hr => ?_,h.bel,h.base⟩
   ·rcases get c kc hkc with ⟨rfl,rfl⟩ | ⟨e,hm⟩
    ·obtain ⟨hoff,cs,rs,a2,a3,a4⟩:=h.own hb hro hg
     exact ⟨[],[],cs ++ rs,AtH.mk a2,by simp [RVs],a4,by rw [hoff]; rfl,fun _ => rfl⟩
    ·exact h.blk c kc g hm hg
   ·rcases get c kc hkc with ⟨rfl,rfl⟩ | ⟨e,hm⟩
    ·exact absurd rfl n1
    ·rcases get d kd hkd with ⟨rfl,rfl⟩ | ⟨f,hm2⟩
     ·exact absurd rfl n2
     ·exact h.inj c d x kc kd hm hm2 r1 r2 n1 n2 s1 s2
   ·obtain ⟨k',hk'⟩:=h.dom c x hx
    by_cases e1:c = b
    ·subst e1; exact ⟨_,List.getElem?_set_self hlt⟩
    ·exact ⟨k',by rw [List.getElem?_set_ne (Ne.symm e1)]; exact hk'⟩
   ·rcases get c kc hkc with ⟨rfl,rfl⟩ | ⟨e,hm⟩
    ·exact h.lo c x k hb hc hro
    ·exact h.lo c x kc hm hc hr
   ·rcases get c kc hkc with ⟨rfl,rfl⟩ | ⟨e,hm⟩
    ·cases hr
    ·exact h.hi c x kc hm hc hr
  ·exact h
theorem kill_len (m:Mem) (old:Option Nat):(kill m old).length = m.length:=by
 unfold kill; split
 ·rfl
 ·split
  ·rename_i k _
   cases k.ro <;> simp
  ·rfl
theorem Act.put_defers' (a:Act) (d:Option Nat) (v:Value):(a.put d v).defers = a.defers:=by cases d <;> rfl
theorem xdo_ok (hE:EqOk P E) (hC:COk P C) {o:Oper} {tm:List MV} {m:Mem} {k:KS} {r:Out} (h:xdo P E C o tm m k = some r)
  {σ:Sg} {a:Act} {w:World} (hX:C.env base w0 σ.x) (hR:Rel base w0 σ tm m a w) (K:Act → World → Prop) (Q:Exit → Act → World → Prop)
  (hK:∀ tm' m' σ' a' w',k tm' m' = some r → Ext σ σ' → Rel base w0 σ' tm' m' a' w' → K a' w'):o.wp P a w K Q:=by
 have h:=xopC_match P E o.op (ev tm) (rdM m) (xact C o tm m k) rfl (by simpa only [xdo] using h)
 unfold xact at h
 simp only [fl_eq,fv_eq,fb_eq] at h
 have hx:=fun res (he:xop P E o.op (ev tm) (rdM m) = some res) => xop_ok hE o (ev tm) a (rdM m) w res he (fun x _ => ev_ok hR.tm x) hR.mem.reads
 unfold Oper.wp
 split at h
 ·rename_i v he
  obtain ⟨u,h1,h2⟩:=hx _ he
  rw [h1]
  exact hK _ _ σ _ _ h (Ext.refl σ) ⟨by rw [Act.put_defers']; exact hR.df,put_ok hR.tm o.dst h2,hR.mem⟩
 ·rename_i cells ty row he
  obtain ⟨us,h1,h2⟩:=hx _ he
  rw [h2]
  obtain ⟨hn,hm⟩:=hR.mem.newAt (b:=m.length) (blk:=⟨.lst cells,ty⟩) (m':=m ++ [some ⟨.lst cells,ty⟩]) (rest:=[]) h1 rfl (by simp) (by simp)
   (fun c hc k => app_get hc k)
  simp only [List.append_nil] at hm
  have hX:=extend_ext (g:=w.heap.size) (n:=us.length) hn
  exact hK _ _ _ _ _ h hX ⟨by rw [Act.put_defers']; exact hR.df,put_ok (RVs.ext hX _ _ hR.tm) o.dst (newV_ok row),hm⟩
 ·rename_i b off vs blk' he
  obtain ⟨g,cs,us,t,h1,h2,h3,h4,kb,h5,h6,h7,h8,h9,h10⟩:=hx _ he
  rw [h4]
  have hb:m[b]? = some (some kb):=by
   unfold rdM at h5
   cases hm:m[b]? with
   | none => simp [hm] at h5
   | some x => cases x <;> simp [hm] at h5; rw [h5]
  have hlt:b < m.length:=(List.getElem?_eq_some_iff.1 hb).1
  exact hK _ _ σ _ _ h (Ext.refl σ) ⟨by rw [Act.put_defers']; exact hR.df,put_ok hR.tm o.dst (by simp [RV]),hR.mem.put (blk':=blk') hb h1 h2 h3 h6 (by simp [hlt]) h7 h8 h9 h10 (fun c hc k => by rw [List.getElem?_set_ne (Ne.symm hc)])⟩
 ·rename_i f args he
  have hcall:=hx _ he
  split at h
  ·rename_i G hG
   obtain ⟨hq,hf⟩:=hC.q f G hG
   obtain ⟨us,h1,h2⟩:=hcall hf
   obtain ⟨v,h3,h4⟩:=hq _ _ _ _ h
   rw [h2]
   refine Calls.mono (h4 base w0 σ us w hX hR.mem.bel (Nat.le_trans hR.mem.base (Nat.le_refl _)) h1 (fun b k _ hb g hg => hR.mem.reads b k g hb hg)) ?_
   rintro e w' ⟨u,rfl,h5,h6⟩
   exact hK _ _ σ _ _ h3 (Ext.refl σ) ⟨by rw [Act.put_defers']; exact hR.df,put_ok hR.tm o.dst h5,hR.mem.call h6⟩
  ·split at h
   ·rename_i G hG
    obtain ⟨hi,hf⟩:=hC.n f G hG
    obtain ⟨us,h1,h2⟩:=hcall hf
    obtain ⟨blk,vf,h3,hro,h4⟩:=hi _ _ _ _ h
    rw [h2]
    refine Calls.mono (h4 base w0 σ us w hX hR.mem.bel (Nat.le_trans hR.mem.base (Nat.le_refl _)) h1 (fun b k _ hb g hg => hR.mem.reads b k g hb hg)) ?_
    rintro e w' ⟨u,rfl,h5,h6⟩
    obtain ⟨τ,h7,h8,h9⟩:=hR.mem.fresh (m':=m ++ [some blk]) (b:=m.length) h6 h5 hro (by simp) (by simp) (fun c hc k => app_get hc k)
    exact hK _ _ τ _ _ h3 h7 ⟨by rw [Act.put_defers']; exact hR.df,put_ok (RVs.ext h7 _ _ hR.tm) o.dst h8,h9⟩
   ·split at h
    ·rename_i G hG
     obtain ⟨hi,hf⟩:=hC.i f G hG
     obtain ⟨us,h1,h2⟩:=hcall hf
     rw [h2]
     refine Calls.mono (hi _ _ _ _ h base w0 σ us w hX h1 hR.mem) ?_
     rintro e w' ⟨v,m',σ',u,h3,rfl,h4,h5,h6⟩
     exact hK _ _ σ' _ _ h3 h4 ⟨by rw [Act.put_defers']; exact hR.df,put_ok (RVs.ext h4 _ _ hR.tm) o.dst h5,h6⟩
    ·simp at h
 ·rename_i old cells ty n sz he
  obtain ⟨us,rest,c,h1,h2,h3,h4⟩:=hx _ he
  rcases h4 with h4 | ⟨b,kb,g,rfl,h5,h5',h6,h7,h8,h9,h10⟩
  ·rw [h4]
   have hM:=(hR.mem.kill old).drew
   have hl:=kill_len m old
   obtain ⟨hn,hm⟩:=hM.newAt (b:=m.length) (blk:=⟨.lst cells,ty⟩) (m':=kill m old ++ [some ⟨.lst cells,ty⟩]) (rest:=rest) h1 rfl (by rw [← hl]; simp) (by rw [← hl]; simp) (fun c hc k => app_get (by rw [hl]; exact hc) k)
   have hX:=extend_ext (g:=w.heap.size) (n:=(us ++ rest).length) hn
   refine hK _ _ _ _ _ h hX ⟨by rw [Act.put_defers']; exact hR.df,put_ok (RVs.ext hX _ _ hR.tm) o.dst ?_,hm⟩
   simp only [RV]
   exact ⟨_,c,extend_at σ m.length w.heap.size _,by rw [extend_off],h2,by rw [extend_cap]; omega⟩
  ·rw [h10]
   have hb:m[b]? = some (some kb):=by
    unfold rdM at h5
    cases hm:m[b]? with
    | none => simp [hm] at h5
    | some x => cases x <;> simp [hm] at h5; rw [h5]
   subst h6
   obtain ⟨hn,hm⟩:=hR.mem.grow (nb:=⟨.lst cells,kb.ty⟩) hb h5' h7 h8 h1 rfl rfl h9
   have hX:=extend_ext (g:=g) (n:=(us ++ rest).length) hn
   refine hK _ _ _ _ _ h hX ⟨by rw [Act.put_defers']; exact hR.df,put_ok (RVs.ext hX _ _ hR.tm) o.dst ?_,hm⟩
   simp only [RV]
   exact ⟨_,c,extend_at σ m.length g _,by rw [extend_off],h2,by rw [extend_cap]; omega⟩
 ·rename_i old sh l ty n sz he
  obtain ⟨us,rest,c,h1,h2,h3,e1,e2,e3,h4⟩:=hx _ he
  have hlen:=recs_len sh l
  rcases h4 with ⟨hp,h4⟩ | ⟨hp,b,kb,g,rfl,h5,h5',h6,h7,h8,h9,h10⟩ | ⟨hp,A,h4⟩
  ·rw [h4]
   have hM:=(hR.mem.kill old).drew
   have hl:=kill_len m old
   obtain ⟨hn,hm⟩:=hM.newAt (b:=m.length) (blk:=⟨.recs sh l,ty⟩) (m':=kill m old ++ [some ⟨.recs sh l,ty⟩]) (rest:=rest) h1 rfl (by rw [← hl]; simp) (by rw [← hl]; simp) (fun c hc k => app_get (by rw [hl]; exact hc) k)
   have hX:=extend_ext (g:=w.heap.size) (n:=(us ++ rest).length) hn
   refine hK _ _ _ _ _ h hX ⟨by rw [Act.put_defers']; exact hR.df,put_ok (RVs.ext hX _ _ hR.tm) o.dst ?_,hm⟩
   simp only [RV]
   exact ⟨_,c,rfl,h2,by omega,fun _ => ⟨w.heap.size,extend_at σ m.length w.heap.size _,by rw [extend_off],by rw [extend_cap]; exact h3⟩⟩
  ·rw [h10]
   have hb:m[b]? = some (some kb):=by
    unfold rdM at h5
    cases hm:m[b]? with
    | none => simp [hm] at h5
    | some x => cases x <;> simp [hm] at h5; rw [h5]
   subst h6
   obtain ⟨hn,hm⟩:=hR.mem.grow (nb:=⟨.recs sh l,kb.ty⟩) hb h5' h7 h8 h1 rfl rfl h9
   have hX:=extend_ext (g:=g) (n:=(us ++ rest).length) hn
   refine hK _ _ _ _ _ h hX ⟨by rw [Act.put_defers']; exact hR.df,put_ok (RVs.ext hX _ _ hR.tm) o.dst ?_,hm⟩
   simp only [RV]
   exact ⟨_,c,rfl,h2,by omega,fun _ => ⟨g,extend_at σ m.length g _,by rw [extend_off],by rw [extend_cap]; exact h3⟩⟩
  ·rw [h4]
   have hM:=hR.mem.kill old
   have hl:=kill_len m old
   have hm:=hM.newNone (b:=m.length) (blk:=⟨.recs sh l,ty⟩) (m':=kill m old ++ [some ⟨.recs sh l,ty⟩]) (by rw [← hl]; simp) (by rw [← hl]; simp) (fun c hc k => app_get (by rw [hl]; exact hc) k)
   refine hK _ _ _ _ _ h (Ext.refl σ) ⟨by rw [Act.put_defers']; exact hR.df,put_ok hR.tm o.dst ?_,hm⟩
   simp only [RV]
   exact ⟨A,0,by rw [hp],by omega,fun _ => rfl,fun h => by omega⟩
 ·rename_i sh l ty n sz gr he
  obtain ⟨us,h1,e1,e2,e3,h4⟩:=hx _ he
  have hlen:=recs_len sh l
  have hul:=h1.length
  rw [h4]
  obtain ⟨hn,hm⟩:=hR.mem.newAt (b:=m.length) (blk:=⟨.recs sh l,ty⟩) (m':=m ++ [some ⟨.recs sh l,ty⟩]) (rest:=[]) h1 rfl (by simp) (by simp) (fun c hc k => app_get hc k)
  simp only [List.append_nil] at hm hn
  have hX:=extend_ext (g:=w.heap.size) (n:=us.length) hn
  refine hK _ _ _ _ _ h hX ⟨by rw [Act.put_defers']; exact hR.df,put_ok (RVs.ext hX _ _ hR.tm) o.dst ?_,hm⟩
  cases gr with
  | true =>
   simp only [cond_true,RV]
   exact ⟨_,n,rfl,Nat.le_refl _,fun h => h,fun _ => ⟨w.heap.size,extend_at σ m.length w.heap.size _,by rw [extend_off],by rw [extend_cap,hul,hlen,e1,e2]⟩⟩
  | false =>
   simp only [cond_false,RV]
   exact ⟨_,n,rfl,Nat.le_refl _,fun _ => ⟨w.heap.size,extend_at σ m.length w.heap.size _,by rw [extend_off]; simp⟩⟩
 ·simp at h
theorem xone_ok (hE:EqOk P E) (hC:COk P C) {ops:Array Oper} {o:Oper} {tm:List MV} {m:Mem} {k:KS} {r:Out} (h:xone P E C ops o tm m k = some r)
  {σ:Sg} {a:Act} {w:World} (hX:C.env base w0 σ.x) (hR:Rel base w0 σ tm m a w) (K:Act → World → Prop) (Q:Exit → Act → World → Prop)
  (hK:∀ tm' m' σ' a' w',k tm' m' = some r → Ext σ σ' → Rel base w0 σ' tm' m' a' w' → K a' w') :
  if Region.wanted o (yielded ops a.tmps) then o.wp P a w K Q else K (a.put o.dst undef) w:=by
 unfold xone at h
 split at h
 ·rename_i hg
  rw [if_pos (by simp [Region.wanted,hg])]
  exact xdo_ok hE hC h hX hR K Q hK
 ·rename_i j want hg
  split at h
  ·rename_i d hd
   split at h
   ·rename_i b hb
    obtain ⟨u,h1,h2⟩:=RVs.get d hR.tm hb
    have e:=h2.val_inv
    subst e
    have hy:yielded ops a.tmps j = some b:=by
     unfold yielded
     rw [hd]
     simp only [Option.bind_some]
     have:a.tmps[d]? = some (.bool b):=by simpa using h1
     rw [this]
    have hlt:d < tm.length:=(List.getElem?_eq_some_iff.1 hb).1
    have key:∀ c,b = c → Rel base w0 σ (tm.set d (.val (.bool c))) m a w:=by
     intro c hc
     subst hc
     have:tm.set d (.val (.bool b)) = tm:=by
      apply List.ext_getElem?
      intro i
      rw [List.getElem?_set]
      split
      ·rename_i e; subst e; first | exact hb.symm | (rw [if_pos hlt]; exact hb.symm) | simp_all
      ·rfl
     rw [this]
     exact hR
    rw [way_eq] at h
    cases hw:b == want with
    | true =>
     have e:b = want:=by simpa using hw
     rw [hw] at h
     simp only [cond_true] at h
     rw [if_pos (by simp [Region.wanted,hg,hy,e])]
     exact xdo_ok hE hC h hX (key want e) K Q hK
    | false =>
     have e:b = !want:=by cases b <;> cases want <;> simp_all
     rw [hw] at h
     simp only [cond_false] at h
     rw [if_neg (by simp [Region.wanted,hg,hy]; intro e2; rw [e2] at hw; simp at hw)]
     have hR2:=key (!want) e
     exact hK _ _ σ _ _ h (Ext.refl σ) ⟨by rw [Act.put_defers']; exact hR2.df,put_ok hR2.tm o.dst (by simp [RV]),hR2.mem⟩
   ·rename_i vs hb
    obtain ⟨u,h1,h2⟩:=RVs.get d hR.tm hb
    have e:=h2.val_inv
    subst e
    have hy:yielded ops a.tmps j = none:=by
     unfold yielded
     rw [hd]
     simp only [Option.bind_some]
     have:a.tmps[d]? = some (.tuple vs):=by simpa using h1
     rw [this]
    rw [if_neg (by simp [Region.wanted,hg,hy])]
    exact hK _ _ σ _ _ h (Ext.refl σ) ⟨by rw [Act.put_defers']; exact hR.df,put_ok hR.tm o.dst (by simp [RV]),hR.mem⟩
   ·simp at h
  ·simp at h
theorem xops_ok (hE:EqOk P E) (hC:COk P C) {ops:Array Oper} {Q:Exit → Act → World → Prop}:∀ (l:List Oper) {tm:List MV} {m:Mem} {k:KS} {r:Out},xops P E C ops l tm m k = some r →
  ∀ {σ:Sg} {a:Act} {w:World},C.env base w0 σ.x → Rel base w0 σ tm m a w → (∀ tm' m' σ' a' w',k tm' m' = some r → Ext σ σ' → Rel base w0 σ' tm' m' a' w' → Q .normal a' w') → wpList P ops Q l a w
 | [],tm,m,k,r,h,σ,a,w,hX,hR,hK => hK _ _ σ _ _ h (Ext.refl σ) hR
 | o :: l,tm,m,k,r,h,σ,a,w,hX,hR,hK => by
  refine wpList_step fun K hK2 => ?_
  refine xone_ok hE hC h hX hR K Q ?_
  intro tm' m' σ' a' w' h1 h2 h3
  exact hK2 _ _ (xops_ok hE hC l h1 (by rw [h2.x]; exact hX) h3 (fun tm'' m'' σ'' a'' w'' g1 g2 g3 => hK _ _ _ _ _ g1 (h2.trans g2) g3))
end
end Go.Proofs.Ytppklhfiajjhmaa.Y
end
section
namespace Go.Proofs.Ytppklhfiajjhmaa.Y
open Go Go.RowKit
set_option linter.unusedVariables false
set_option linter.unusedSimpArgs false
structure Rec where
 dst:Option Nat
 v:MV
 wr:Option (Nat × Blk)
 tr:List Nat
 rd:List Nat
def setW (m:Mem):Option (Nat × Blk) → Mem
 | some (b,k) => m.set b (some k)
 | none => m
def opReads (op:Op) (e:Operand → MV):List Nat :=
 match op with
 | .load _ x => refs (e x)
 | .store _ x _ => refs (e x)
 | _ => []
def tmps (op:Op):List Nat:=op.operands.toList.filterMap fun | .tmp t => some t | _ => none
abbrev KR:=List MV → Rec → Option Out
def xactD (C:Ctx) (b0:Nat) (o:Oper) (tm:List MV) (m:Mem) (g:List Nat) (k:KR) (res:Option Res):Option Out :=
 match res with
 | some (.val v) => fv v (fun v => fl (g ++ tmps o.op) (fun tr => fl (opReads o.op (ev tm)) (fun rd => k tm ⟨o.dst,v,none,tr,rd⟩)))
 | some (.new cells ty row) => fl cells (fun cells => fl (g ++ tmps o.op) (fun tr => fl (opReads o.op (ev tm)) (fun rd => k tm ⟨o.dst,newM row b0,some (b0,⟨.lst cells,ty⟩),tr,rd⟩)))
 | some (.put b off vs blk) => fb blk (fun blk => fl (g ++ tmps o.op) (fun tr => fl (b :: opReads o.op (ev tm)) (fun rd => k tm ⟨o.dst,.val undef,some (b,blk),tr,rd⟩)))
 | some (.call f args) => match C.q f with
  | some G => G args (rdM m) (fun v => fv v (fun v => fl (g ++ tmps o.op) (fun tr => fl (reach (rdM m) args) (fun rd => k tm ⟨o.dst,v,none,tr,rd⟩))))
  | none => match C.n f with
   | some G => G args (rdM m) (fun blk vf => bif (reach (rdM m) args).contains b0 then none else fb blk (fun blk => fv (vf b0) (fun v => fl (g ++ tmps o.op) (fun tr => fl (reach (rdM m) args) (fun rd => k tm ⟨o.dst,v,some (b0,blk),tr,rd⟩)))))
   | none => none
 | some (.app _ _ _ _ _) => none
 | some (.appR _ _ _ _ _ _) => none
 | some (.newR sh l ty n sz gr) => fl (g ++ tmps o.op) (fun tr => fl (opReads o.op (ev tm)) (fun rd => k tm ⟨o.dst,bif gr then .gv b0 n sz else .va b0 0 n sz,some (b0,⟨.recs sh l,ty⟩),tr,rd⟩))
 | none => none
def xdoD (P:Program) (E:Eqs) (C:Ctx) (b0:Nat) (o:Oper) (tm:List MV) (m:Mem) (g:List Nat) (k:KR):Option Out :=
 match xopC P E o.op (ev tm) (fun b => bif (opReads o.op (ev tm)).contains b then rdM m b else none) with
 | (c,q) => bif c then xactD C b0 o tm m g k q else none
def xoneD (P:Program) (E:Eqs) (C:Ctx) (ops:Array Oper) (b0:Nat) (o:Oper) (tm:List MV) (m:Mem) (k:KR):Option Out :=
 match o.guard with
 | none => xdoD P E C b0 o tm m [] k
 | some (j,want) => match (ops[j]?).bind (·.dst) with
  | some d => match tm[d]? with
   | some (.val (.bool b)) => way want b (xdoD P E C b0 o (tm.set d (.val (.bool want))) m [d] k) (k (tm.set d (.val (.bool (!want)))) ⟨o.dst,.val undef,none,[d],[]⟩)
   | some (.val (.tuple _)) => k tm ⟨o.dst,.val undef,none,[d],[]⟩
   | _ => none
  | none => none
def Stepper (P:Program) (X:Bs → World → (Nat → Value) → Prop) (ops:Array Oper) (o:Oper) (tm:List MV) (m:Mem) (q:Rec):Prop :=
 q.dst = o.dst ∧ ∀ base w0 σ tm' m' a w K Q,X base w0 σ.x → Rel base w0 σ tm' m' a w → (∀ t ∈ q.tr,tm'[t]? = tm[t]?) → (∀ b ∈ q.rd,m'[b]? = m[b]?) →
  (∀ b k,q.wr = some (b,k) → b ∈ q.rd ∨ (b < m'.length ∧ ∀ k,m'[b]? ≠ some (some k))) →
  (∀ σ' a' w',Ext σ σ' → Rel base w0 σ' (put tm' q.dst q.v) (setW m' q.wr) a' w' → K a' w') →
  if Region.wanted o (yielded ops a.tmps) then o.wp P a w K Q else K (a.put o.dst undef) w
section
variable {P:Program} {E:Eqs} {C:Ctx}
theorem ev_same {tm tm':List MV} {op:Op} (h:∀ t ∈ tmps op,tm'[t]? = tm[t]?) {x:Operand} (hx:x ∈ op.operands.toList):ev tm x = ev tm' x:=by
 cases x with
 | tmp t =>
  have ht:t ∈ tmps op:=by
   unfold tmps
   rw [List.mem_filterMap]
   exact ⟨.tmp t,hx,rfl⟩
  simp only [ev,List.getD_eq_getElem?_getD,h t ht]
 | _ => rfl
def Done (P:Program) (X:Bs → World → (Nat → Value) → Prop) (o:Oper) (tm:List MV) (m:Mem) (g:List Nat) (q:Rec):Prop :=
 q.dst = o.dst ∧ (∃ l,q.tr = g ++ l) ∧ ∀ base w0 σ tm' m' a w K Q,X base w0 σ.x → Rel base w0 σ tm' m' a w → (∀ t ∈ q.tr,tm'[t]? = tm[t]?) → (∀ b ∈ q.rd,m'[b]? = m[b]?) →
  (∀ b k,q.wr = some (b,k) → b ∈ q.rd ∨ (b < m'.length ∧ ∀ k,m'[b]? ≠ some (some k))) →
  (∀ σ' a' w',Ext σ σ' → Rel base w0 σ' (put tm' q.dst q.v) (setW m' q.wr) a' w' → K a' w') → o.wp P a w K Q
theorem xdoD_ok (hE:EqOk P E) (hC:COk P C) {b0:Nat} {o:Oper} {tm:List MV} {m:Mem} {g:List Nat} {k:KR} {r:Out} (h:xdoD P E C b0 o tm m g k = some r) :
  ∃ q,k tm q = some r ∧ Done P C.env o tm m g q:=by
 have h:=xopC_match P E o.op (ev tm) (fun b => bif (opReads o.op (ev tm)).contains b then rdM m b else none) (xactD C b0 o tm m g k) rfl (by simpa only [xdoD] using h)
 unfold xactD at h
 simp only [fl_eq,fv_eq,fb_eq] at h
 have reads:∀ {σ:Sg} {m':Mem} {base w0 w},RM base w0 σ m' w → ∀ l:List Nat,(∀ b ∈ l,m'[b]? = m[b]?) → Reads σ w (fun b => bif l.contains b then rdM m b else none):=by
  intro σ m' base w0 w hm l hl b k g hb hg
  cases hc:l.contains b with
  | false => simp only [hc,cond_false] at hb; cases hb
  | true =>
   simp only [hc,cond_true] at hb
   have hin:b ∈ l:=by simpa using hc
   refine hm.reads b k g ?_ hg
   unfold rdM at hb ⊢
   rw [hl b hin]
   exact hb
 split at h
 ·rename_i v he
  refine ⟨_,h,rfl,⟨_,rfl⟩,?_⟩
  intro base w0 σ tm' m' a w K Q hX hR h1 h2 _ hK
  obtain ⟨u,g1,g2⟩:=xop_ok (σ:=σ) hE o (ev tm) a _ w _ he (fun x hx => by rw [ev_same (fun t ht => h1 t (List.mem_append_right _ ht)) hx]; exact ev_ok hR.tm x) (reads hR.mem _ h2)
  unfold Oper.wp
  rw [g1]
  exact hK σ _ _ (Ext.refl σ) ⟨by rw [Act.put_defers']; exact hR.df,put_ok hR.tm o.dst g2,hR.mem⟩
 ·rename_i cells ty row he
  refine ⟨_,h,rfl,⟨_,rfl⟩,?_⟩
  intro base w0 σ tm' m' a w K Q hX hR h1 h2 h3 hK
  obtain ⟨us,g1,g2⟩:=xop_ok (σ:=σ) hE o (ev tm) a _ w _ he (fun x hx => by rw [ev_same (fun t ht => h1 t (List.mem_append_right _ ht)) hx]; exact ev_ok hR.tm x) (reads hR.mem _ h2)
  have hnil:opReads o.op (ev tm) = []:=by
   cases ho:o.op <;> simp only [opReads] <;> rw [ho] at he <;> simp only [xop,Bool.cond_eq_ite] at he <;> (repeat' (split at he)) <;> simp at he
  unfold Oper.wp
  rw [g2]
  have hfresh:=h3 b0 _ rfl
  rw [hnil] at hfresh
  simp only [List.not_mem_nil,false_or] at hfresh
  obtain ⟨hlt,hfr⟩:=hfresh
  obtain ⟨hn,hm⟩:=hR.mem.newAt (b:=b0) (blk:=⟨.lst cells,ty⟩) (m':=m'.set b0 (some ⟨.lst cells,ty⟩)) (rest:=[]) g1 rfl hfr (by simp [hlt]) (fun c hc k => by rw [List.getElem?_set_ne (Ne.symm hc)])
  simp only [List.append_nil] at hm
  have hX:=extend_ext (g:=w.heap.size) (n:=us.length) hn
  exact hK _ _ _ hX ⟨by rw [Act.put_defers']; exact hR.df,put_ok (RVs.ext hX _ _ hR.tm) o.dst (newV_ok row),hm⟩
 ·rename_i b off vs blk he
  refine ⟨_,h,rfl,⟨_,rfl⟩,?_⟩
  intro base w0 σ tm' m' a w K Q hX hR h1 h2 h3 hK
  obtain ⟨g',cs,us,t,g1,g2,g3,g4,k',g5,g6,g7,g8,g9,g10⟩:=xop_ok (σ:=σ) hE o (ev tm) a _ w _ he (fun x hx => by rw [ev_same (fun t ht => h1 t (List.mem_append_right _ ht)) hx]; exact ev_ok hR.tm x) (reads hR.mem _ (fun b hb => h2 b (List.mem_cons_of_mem _ hb)))
  unfold Oper.wp
  rw [g4]
  have hmb:m'[b]? = some (some k'):=by
   rw [h2 b List.mem_cons_self]
   simp only at g5
   cases hcc:(opReads o.op (ev tm)).contains b with
   | false => rw [hcc] at g5; cases g5
   | true =>
    rw [hcc,cond_true] at g5
    unfold rdM at g5
    cases hm:m[b]? with
    | none => simp [hm] at g5
    | some x => cases x <;> simp [hm] at g5; rw [g5]
  have hlt:b < m'.length:=(List.getElem?_eq_some_iff.1 hmb).1
  exact hK σ _ _ (Ext.refl σ) ⟨by rw [Act.put_defers']; exact hR.df,put_ok hR.tm o.dst (by simp [RV]),hR.mem.put (blk':=blk) hmb g1 g2 g3 g6 (by show (m'.set b (some blk))[b]? = _; simp [hlt]) g7 g8 g9 g10 (fun c hc k => by show (m'.set b (some blk))[c]? = _ ↔ _; rw [List.getElem?_set_ne (Ne.symm hc)])⟩
 ·rename_i f args he
  split at h
  ·rename_i G hG
   obtain ⟨hq,hf⟩:=hC.q f G hG
   obtain ⟨v,h3,h4⟩:=hq _ _ _ _ h
   refine ⟨_,h3,rfl,⟨_,rfl⟩,?_⟩
   intro base w0 σ tm' m' a w K Q hX hR h1 h2 _ hK
   have hrd0:opReads o.op (ev tm) = []:=by
    cases ho:o.op <;> simp only [opReads] <;> rw [ho] at he <;> simp only [xop,Bool.cond_eq_ite] at he <;> (repeat' (split at he)) <;> simp at he
   obtain ⟨us,g1,g2⟩:=xop_ok (σ:=σ) hE o (ev tm) a _ w _ he (fun x hx => by rw [ev_same (fun t ht => h1 t (List.mem_append_right _ ht)) hx]; exact ev_ok hR.tm x) (by rw [hrd0]; intro b k g hb; simp at hb) hf
   unfold Oper.wp
   rw [g2]
   refine Calls.mono (h4 base w0 σ us w hX hR.mem.bel hR.mem.base g1 (fun b k hin hb => ?_)) ?_
   ·have:m'[b]? = m[b]?:=h2 b hin
    intro gg hgg
    refine hR.mem.reads b k gg ?_ hgg
    unfold rdM at hb ⊢
    rw [this]; exact hb
   ·rintro e w' ⟨u,rfl,h5,h6⟩
    exact hK σ _ _ (Ext.refl σ) ⟨by rw [Act.put_defers']; exact hR.df,put_ok hR.tm o.dst h5,hR.mem.call h6⟩
  ·split at h
   ·rename_i G hG
    obtain ⟨hq,hf⟩:=hC.n f G hG
    obtain ⟨blk,vf,h3,hro,h4⟩:=hq _ _ _ _ h
    cases hcon:(reach (rdM m) args).contains b0 with
    | true => rw [hcon] at h3; simp at h3
    | false =>
    rw [hcon] at h3
    simp only [cond_false,fb_eq,fv_eq,fl_eq] at h3
    refine ⟨_,h3,rfl,⟨_,rfl⟩,?_⟩
    intro base w0 σ tm' m' a w K Q hX hR h1 h2 hfr0 hK
    have hrd0:opReads o.op (ev tm) = []:=by
     cases ho:o.op <;> simp only [opReads] <;> rw [ho] at he <;> simp only [xop,Bool.cond_eq_ite] at he <;> (repeat' (split at he)) <;> simp at he
    obtain ⟨us,g1,g2⟩:=xop_ok (σ:=σ) hE o (ev tm) a _ w _ he (fun x hx => by rw [ev_same (fun t ht => h1 t (List.mem_append_right _ ht)) hx]; exact ev_ok hR.tm x) (by rw [hrd0]; intro b k g hb; simp at hb) hf
    unfold Oper.wp
    rw [g2]
    have hfresh:=hfr0 b0 _ rfl
    have hnot:¬ b0 ∈ reach (rdM m) args:=by simpa using hcon
    rcases hfresh with hfresh | ⟨hlt,hfr⟩
    ·exact absurd hfresh hnot
    refine Calls.mono (h4 base w0 σ us w hX hR.mem.bel hR.mem.base g1 (fun b k hin hb => ?_)) ?_
    ·have:m'[b]? = m[b]?:=h2 b hin
     intro gg hgg
     refine hR.mem.reads b k gg ?_ hgg
     unfold rdM at hb ⊢
     rw [this]; exact hb
    ·rintro e w' ⟨u,rfl,h5,h6⟩
     obtain ⟨τ,h7,h8,h9⟩:=hR.mem.fresh (m':=m'.set b0 (some blk)) (b:=b0) h6 h5 hro hfr (by simp [hlt]) (fun c hc k => by rw [List.getElem?_set_ne (Ne.symm hc)])
     exact hK τ _ _ h7 ⟨by rw [Act.put_defers']; exact hR.df,put_ok (RVs.ext h7 _ _ hR.tm) o.dst h8,h9⟩
   ·simp at h
 ·simp at h
 ·simp at h
 ·rename_i sh l ty n sz gr he
  refine ⟨_,h,rfl,⟨_,rfl⟩,?_⟩
  intro base w0 σ tm' m' a w K Q hX hR h1 h2 h3 hK
  obtain ⟨us,g1,e1,e2,e3,g2⟩:=xop_ok (σ:=σ) hE o (ev tm) a _ w _ he (fun x hx => by rw [ev_same (fun t ht => h1 t (List.mem_append_right _ ht)) hx]; exact ev_ok hR.tm x) (reads hR.mem _ h2)
  have hnil:opReads o.op (ev tm) = []:=by
   cases ho:o.op <;> simp only [opReads] <;> rw [ho] at he <;> simp only [xop,Bool.cond_eq_ite] at he <;> (repeat' (split at he)) <;> simp at he
  unfold Oper.wp
  rw [g2]
  have hfresh:=h3 b0 _ rfl
  rw [hnil] at hfresh
  simp only [List.not_mem_nil,false_or] at hfresh
  obtain ⟨hlt,hfr⟩:=hfresh
  obtain ⟨hn,hm⟩:=hR.mem.newAt (b:=b0) (blk:=⟨.recs sh l,ty⟩) (m':=m'.set b0 (some ⟨.recs sh l,ty⟩)) (rest:=[]) g1 rfl hfr (by simp [hlt]) (fun c hc k => by rw [List.getElem?_set_ne (Ne.symm hc)])
  simp only [List.append_nil] at hm
  have hlen:=recs_len sh l
  have hul:=g1.length
  have hX:=extend_ext (g:=w.heap.size) (n:=us.length) hn
  refine hK _ _ _ hX ⟨by rw [Act.put_defers']; exact hR.df,put_ok (RVs.ext hX _ _ hR.tm) o.dst ?_,hm⟩
  cases gr with
  | true =>
   simp only [cond_true,RV]
   exact ⟨_,n,rfl,Nat.le_refl _,fun h => h,fun _ => ⟨w.heap.size,extend_at σ b0 w.heap.size _,by rw [extend_off],by rw [extend_cap,hul,hlen,e1,e2]⟩⟩
  | false =>
   simp only [cond_false,RV]
   exact ⟨_,n,rfl,Nat.le_refl _,fun _ => ⟨w.heap.size,extend_at σ b0 w.heap.size _,by rw [extend_off]; simp⟩⟩
 ·simp at h
theorem xoneD_ok (hE:EqOk P E) (hC:COk P C) {ops:Array Oper} {b0:Nat} {o:Oper} {tm:List MV} {m:Mem} {k:KR} {r:Out} (h:xoneD P E C ops b0 o tm m k = some r) :
  ∃ q,k tm q = some r ∧ Stepper P C.env ops o tm m q:=by
 unfold xoneD at h
 split at h
 ·rename_i hg
  obtain ⟨q,h1,h2,_,h3⟩:=xdoD_ok hE hC h
  refine ⟨q,h1,h2,?_⟩
  intro base w0 σ tm' m' a w K Q hX hR g1 g2 g3 g4
  rw [if_pos (by simp [Region.wanted,hg])]
  exact h3 base w0 σ tm' m' a w K Q hX hR g1 g2 g3 g4
 ·rename_i j want hg
  split at h
  ·rename_i d hd
   split at h
   ·rename_i b hb
    have hlt:d < tm.length:=(List.getElem?_eq_some_iff.1 hb).1
    have key:∀ c,b = c → tm.set d (.val (.bool c)) = tm:=by
     intro c hc
     subst hc
     apply List.ext_getElem?
     intro i
     rw [List.getElem?_set]
     split
     ·rename_i e; subst e; first | exact hb.symm | (rw [if_pos hlt]; exact hb.symm) | simp_all
     ·rfl
    have hy:∀ {σ:Sg} {tm':List MV} {a:Act},RVs σ tm' a.tmps.toList → tm'[d]? = tm[d]? → yielded ops a.tmps j = some b:=by
     intro σ tm' a ht he
     obtain ⟨u,h1,h2⟩:=RVs.get d ht (he.trans hb)
     have e:=h2.val_inv
     subst e
     unfold yielded
     rw [hd]
     simp only [Option.bind_some]
     have:a.tmps[d]? = some (.bool b):=by simpa using h1
     rw [this]
    rw [way_eq] at h
    cases hw:b == want with
    | true =>
     have e:b = want:=by simpa using hw
     rw [hw] at h
     simp only [cond_true] at h
     rw [key want e] at h
     obtain ⟨q,h1,h2,⟨l,hl⟩,h3⟩:=xdoD_ok hE hC h
     refine ⟨q,h1,h2,?_⟩
     intro base w0 σ tm' m' a w K Q hX hR g1 g2 g3 g4
     rw [if_pos (by simp [Region.wanted,hg,hy hR.tm (g1 d (by rw [hl]; simp)),e])]
     exact h3 base w0 σ tm' m' a w K Q hX hR g1 g2 g3 g4
    | false =>
     have e:b = !want:=by cases b <;> cases want <;> simp_all
     rw [hw] at h
     simp only [cond_false] at h
     rw [key (!want) e] at h
     refine ⟨_,h,rfl,?_⟩
     intro base w0 σ tm' m' a w K Q hX hR g1 g2 g3 g4
     rw [if_neg (by simp [Region.wanted,hg,hy hR.tm (g1 d (by simp))]; intro e2; rw [e2] at hw; simp at hw)]
     exact g4 σ _ _ (Ext.refl σ) ⟨by rw [Act.put_defers']; exact hR.df,put_ok hR.tm o.dst (by simp [RV]),hR.mem⟩
   ·rename_i vs hb
    refine ⟨_,h,rfl,?_⟩
    intro base w0 σ tm' m' a w K Q hX hR g1 g2 g3 g4
    have hy:yielded ops a.tmps j = none:=by
     obtain ⟨u,h1,h2⟩:=RVs.get d hR.tm ((g1 d (by simp)).trans hb)
     have e:=h2.val_inv
     subst e
     unfold yielded
     rw [hd]
     simp only [Option.bind_some]
     have:a.tmps[d]? = some (.tuple vs):=by simpa using h1
     rw [this]
    rw [if_neg (by simp [Region.wanted,hg,hy])]
    exact g4 σ _ _ (Ext.refl σ) ⟨by rw [Act.put_defers']; exact hR.df,put_ok hR.tm o.dst (by simp [RV]),hR.mem⟩
   ·simp at h
  ·simp at h
end
end Go.Proofs.Ytppklhfiajjhmaa.Y
end
section
namespace Go.Proofs.Ytppklhfiajjhmaa.Y
open Go Go.RowKit
set_option linter.unusedVariables false
set_option linter.unusedSimpArgs false
def edgesOf (o:Oper):List Nat:=(o.after.toList.filter (fun e => Region.binds .any e)).map (·.on)
def mask (acc:List Nat):List Nat → Nat
 | [] => 0
 | e :: r => 2 ^ e ||| (acc.getD e 0 ||| mask acc r)
def befs:List Oper → List Nat → List Nat
 | [],acc => acc
 | o :: r,acc => befs r (acc ++ [mask acc (edgesOf o)])
def edgesOk:List Oper → Nat → Bool
 | [],_ => true
 | o :: r,i => (edgesOf o).all (fun e => decide (e < i)) && edgesOk r (i + 1)
def hits (p q:Rec):Bool :=
 (match p.dst with
  | some d => q.tr.contains d || q.dst == some d
  | none => false) ||
 (match p.wr with
  | some (b,_) => q.rd.contains b || (match q.wr with | some (c,_) => c == b | none => false)
  | none => false)
def writes (q:Rec) (b:Nat):Bool:=match q.wr with | some (c,_) => c == b | none => false
def freshIn (mp:Mem) (b:Nat):Bool:=match mp[b]? with | some none => true | _ => false
def chk (bf:List Nat) (mp:Mem) (qs:List Rec):Bool :=
 qs.zipIdx.all fun (p,i) =>
  (qs.zipIdx.all fun (q,j) => i == j || !(hits p q) || (bf.getD j 0).testBit i || (bf.getD i 0).testBit j) &&
  (match p.wr with
   | some (b,_) => p.rd.contains b || (freshIn mp b && qs.zipIdx.all fun (q,j) => i == j || !(writes q b) || (bf.getD j 0).testBit i)
   | none => true)
def tmF:List Rec → Nat → (Nat → Bool) → List MV → List MV
 | [],_,_,tm => tm
 | q :: r,i,D,tm => tmF r (i + 1) D (if D i = true then put tm q.dst q.v else tm)
def mF:List Rec → Nat → (Nat → Bool) → Mem → Mem
 | [],_,_,m => m
 | q :: r,i,D,m => mF r (i + 1) D (if D i = true then setW m q.wr else m)
def lastT:List Rec → Nat → (Nat → Bool) → Nat → Option MV
 | [],_,_,_ => none
 | q :: r,i,D,t => match lastT r (i + 1) D t with
  | some v => some v
  | none => if D i = true ∧ q.dst = some t then some q.v else none
def lastB:List Rec → Nat → (Nat → Bool) → Nat → Option Blk
 | [],_,_,_ => none
 | q :: r,i,D,b => match lastB r (i + 1) D b with
  | some v => some v
  | none => match q.wr with
   | some (c,k) => if D i = true ∧ c = b then some k else none
   | none => none
theorem put_get (tm:List MV) (d:Option Nat) (v:MV) (t:Nat):(put tm d v)[t]? = if d = some t ∧ t < tm.length then some v else tm[t]?:=by
 cases d with
 | none => simp [put]
 | some d =>
  simp only [put,List.getElem?_set]
  by_cases e:d = t
  ·subst e
   by_cases h:d < tm.length <;> simp [h]
  ·simp [e]
theorem put_len (tm:List MV) (d:Option Nat) (v:MV):(put tm d v).length = tm.length:=by cases d <;> simp [put]
theorem setW_get (m:Mem) (w:Option (Nat × Blk)) (b:Nat):(setW m w)[b]? = match w with | some (c,k) => if c = b ∧ b < m.length then some (some k) else m[b]? | none => m[b]?:=by
 cases w with
 | none => simp [setW]
 | some p =>
  obtain ⟨c,k⟩:=p
  simp only [setW,List.getElem?_set]
  by_cases e:c = b
  ·subst e
   by_cases h:c < m.length <;> simp [h]
  ·simp [e]
theorem setW_len (m:Mem) (w:Option (Nat × Blk)):(setW m w).length = m.length:=by cases w <;> simp [setW]
theorem tmF_len:∀ (qs:List Rec) (i:Nat) (D:Nat → Bool) (tm:List MV),(tmF qs i D tm).length = tm.length
 | [],_,_,_ => rfl
 | q :: r,i,D,tm => by
  simp only [tmF]
  rw [tmF_len r]
  split <;> simp [put_len]
theorem mF_len:∀ (qs:List Rec) (i:Nat) (D:Nat → Bool) (m:Mem),(mF qs i D m).length = m.length
 | [],_,_,_ => rfl
 | q :: r,i,D,m => by
  simp only [mF]
  rw [mF_len r]
  split <;> simp [setW_len]
theorem tmF_get:∀ (qs:List Rec) (i:Nat) (D:Nat → Bool) (tm:List MV) (t:Nat),(tmF qs i D tm)[t]? = match lastT qs i D t with | some v => if t < tm.length then some v else tm[t]? | none => tm[t]?
 | [],_,_,_,_ => rfl
 | q :: r,i,D,tm,t => by
  simp only [tmF,lastT]
  rw [tmF_get r]
  have hl:(if D i = true then put tm q.dst q.v else tm).length = tm.length:=by split <;> simp [put_len]
  cases h:lastT r (i + 1) D t with
  | some v =>
   simp only [hl]
   split
   ·rfl
   ·rename_i hh
    split
    ·rw [put_get,if_neg (fun x => hh x.2)]
    ·rfl
  | none =>
   simp only
   by_cases hd:D i = true
   ·simp only [hd,if_true,true_and,put_get]
    by_cases e:q.dst = some t
    ·simp [e]
    ·simp [e]
   ·simp [hd]
theorem mF_get:∀ (qs:List Rec) (i:Nat) (D:Nat → Bool) (m:Mem) (b:Nat),(mF qs i D m)[b]? = match lastB qs i D b with | some k => if b < m.length then some (some k) else m[b]? | none => m[b]?
 | [],_,_,_,_ => rfl
 | q :: r,i,D,m,b => by
  simp only [mF,lastB]
  rw [mF_get r]
  have hl:(if D i = true then setW m q.wr else m).length = m.length:=by split <;> simp [setW_len]
  cases h:lastB r (i + 1) D b with
  | some v =>
   simp only [hl]
   split
   ·rfl
   ·rename_i hh
    split
    ·rw [setW_get]
     split
     ·rw [if_neg (fun x => hh x.2)]
     ·rfl
    ·rfl
  | none =>
   simp only
   by_cases hd:D i = true
   ·simp only [hd,if_true,true_and,setW_get]
    cases hw:q.wr with
    | none => rfl
    | some p =>
     obtain ⟨c,k⟩:=p
     simp only
     by_cases e:c = b
     ·simp [e]
     ·simp [e]
   ·simp only [hd,if_false,false_and]
    cases hw:q.wr with
    | none => simp
    | some p => simp
theorem lastT_congr:∀ (qs:List Rec) (i:Nat) (D D':Nat → Bool) (t:Nat),(∀ j q,qs[j]? = some q → q.dst = some t → D (i + j) = D' (i + j)) → lastT qs i D t = lastT qs i D' t
 | [],_,_,_,_,_ => rfl
 | q :: r,i,D,D',t,h => by
  simp only [lastT]
  rw [lastT_congr r (i + 1) D D' t (fun j q' hj hq => by have:=h (j + 1) q' (by simpa using hj) hq; rwa [show i + (j + 1) = i + 1 + j by omega] at this)]
  split
  ·rfl
  ·by_cases e:q.dst = some t
   ·have:=h 0 q (by simp) e
    simp only [Nat.add_zero] at this
    rw [this]
   ·simp [e]
theorem lastB_congr:∀ (qs:List Rec) (i:Nat) (D D':Nat → Bool) (b:Nat),(∀ j q,qs[j]? = some q → writes q b = true → D (i + j) = D' (i + j)) → lastB qs i D b = lastB qs i D' b
 | [],_,_,_,_,_ => rfl
 | q :: r,i,D,D',b,h => by
  simp only [lastB]
  rw [lastB_congr r (i + 1) D D' b (fun j q' hj hq => by have:=h (j + 1) q' (by simpa using hj) hq; rwa [show i + (j + 1) = i + 1 + j by omega] at this)]
  split
  ·rfl
  ·cases hw:q.wr with
   | none => rfl
   | some p =>
    obtain ⟨c,k⟩:=p
    simp only
    by_cases e:c = b
    ·have:=h 0 q (by simp) (by simp [writes,hw,e])
     simp only [Nat.add_zero] at this
     rw [this]
    ·simp [e]
theorem lastT_none:∀ (qs:List Rec) (i:Nat) (D:Nat → Bool) (t:Nat),(∀ j q,qs[j]? = some q → q.dst = some t → D (i + j) = false) → lastT qs i D t = none
 | [],_,_,_,_ => rfl
 | q :: r,i,D,t,h => by
  simp only [lastT]
  rw [lastT_none r (i + 1) D t (fun j q' hj hq => by have:=h (j + 1) q' (by simpa using hj) hq; rwa [show i + (j + 1) = i + 1 + j by omega] at this)]
  simp only
  rw [if_neg]
  rintro ⟨h1,h2⟩
  have:=h 0 q (by simp) h2
  simp only [Nat.add_zero] at this
  rw [this] at h1
  cases h1
theorem lastB_none:∀ (qs:List Rec) (i:Nat) (D:Nat → Bool) (b:Nat),(∀ j q,qs[j]? = some q → writes q b = true → D (i + j) = false) → lastB qs i D b = none
 | [],_,_,_,_ => rfl
 | q :: r,i,D,b,h => by
  simp only [lastB]
  rw [lastB_none r (i + 1) D b (fun j q' hj hq => by have:=h (j + 1) q' (by simpa using hj) hq; rwa [show i + (j + 1) = i + 1 + j by omega] at this)]
  simp only
  cases hw:q.wr with
  | none => rfl
  | some p =>
   obtain ⟨c,k⟩:=p
   simp only
   rw [if_neg]
   rintro ⟨h1,h2⟩
   have:=h 0 q (by simp) (by simp [writes,hw,h2])
   simp only [Nat.add_zero] at this
   rw [this] at h1
   cases h1
theorem lastT_hit:∀ (qs:List Rec) (i p:Nat) (D:Nat → Bool) (t:Nat) (q:Rec),qs[p]? = some q → q.dst = some t → D (i + p) = true → (∀ j q',p < j → qs[j]? = some q' → q'.dst = some t → D (i + j) = false) → lastT qs i D t = some q.v
 | [],_,_,_,_,_,h,_,_,_ => by simp at h
 | q0 :: r,i,0,D,t,q,h,hd,hD,hj => by
  simp at h
  subst h
  simp only [lastT]
  rw [lastT_none r (i + 1) D t (fun j q' h1 h2 => by have:=hj (j + 1) q' (by omega) (by simpa using h1) h2; rwa [show i + (j + 1) = i + 1 + j by omega] at this)]
  simp only [Nat.add_zero] at hD
  simp [hD,hd]
 | q0 :: r,i,p + 1,D,t,q,h,hd,hD,hj => by
  simp at h
  simp only [lastT]
  rw [lastT_hit r (i + 1) p D t q h hd (by rwa [show i + 1 + p = i + (p + 1) by omega]) (fun j q' h0 h1 h2 => by have:=hj (j + 1) q' (by omega) (by simpa using h1) h2; rwa [show i + (j + 1) = i + 1 + j by omega] at this)]
theorem lastB_hit:∀ (qs:List Rec) (i p:Nat) (D:Nat → Bool) (b:Nat) (k:Blk) (q:Rec),qs[p]? = some q → q.wr = some (b,k) → D (i + p) = true → (∀ j q',p < j → qs[j]? = some q' → writes q' b = true → D (i + j) = false) → lastB qs i D b = some k
 | [],_,_,_,_,_,_,h,_,_,_ => by simp at h
 | q0 :: r,i,0,D,b,k,q,h,hd,hD,hj => by
  simp at h
  subst h
  simp only [lastB]
  rw [lastB_none r (i + 1) D b (fun j q' h1 h2 => by have:=hj (j + 1) q' (by omega) (by simpa using h1) h2; rwa [show i + (j + 1) = i + 1 + j by omega] at this)]
  simp only [Nat.add_zero] at hD
  simp [hD,hd]
 | q0 :: r,i,p + 1,D,b,k,q,h,hd,hD,hj => by
  simp at h
  simp only [lastB]
  rw [lastB_hit r (i + 1) p D b k q h hd (by rwa [show i + 1 + p = i + (p + 1) by omega]) (fun j q' h0 h1 h2 => by have:=hj (j + 1) q' (by omega) (by simpa using h1) h2; rwa [show i + (j + 1) = i + 1 + j by omega] at this)]
theorem tmF_none:∀ (qs:List Rec) (i:Nat) (D:Nat → Bool) (tm:List MV),(∀ j,i ≤ j → D j = false) → tmF qs i D tm = tm
 | [],_,_,_,_ => rfl
 | q :: r,i,D,tm,h => by
  simp only [tmF]
  rw [h i (Nat.le_refl _)]
  exact tmF_none r (i + 1) D tm (fun j hj => h j (by omega))
theorem mF_none:∀ (qs:List Rec) (i:Nat) (D:Nat → Bool) (m:Mem),(∀ j,i ≤ j → D j = false) → mF qs i D m = m
 | [],_,_,_,_ => rfl
 | q :: r,i,D,m,h => by
  simp only [mF]
  rw [h i (Nat.le_refl _)]
  exact mF_none r (i + 1) D m (fun j hj => h j (by omega))
theorem befs_len:∀ (l:List Oper) (acc:List Nat),(befs l acc).length = acc.length + l.length
 | [],acc => by simp [befs]
 | o :: r,acc => by simp [befs,befs_len r]; omega
theorem mask_bit {acc:List Nat} {i:Nat}:∀ {l:List Nat},(mask acc l).testBit i = true → ∃ e ∈ l,i = e ∨ (acc.getD e 0).testBit i = true
 | [],h => by simp [mask] at h
 | e :: r,h => by
  simp only [mask,Nat.testBit_or,Bool.or_eq_true,Nat.testBit_two_pow,decide_eq_true_eq] at h
  rcases h with h | h | h
  ·exact ⟨e,List.mem_cons_self,.inl h.symm⟩
  ·exact ⟨e,List.mem_cons_self,.inr h⟩
  ·obtain ⟨e',h1,h2⟩:=mask_bit h
   exact ⟨e',List.mem_cons_of_mem _ h1,h2⟩
def Closed (ops:List Oper) (D:Nat → Bool):Prop:=∀ j o,ops[j]? = some o → D j = true → ∀ e ∈ edgesOf o,D e = true
theorem befs_spec (D:Nat → Bool):∀ (l pre:List Oper) (acc:List Nat),acc.length = pre.length → Closed (pre ++ l) D →
  (∀ j i o,pre[j]? = some o → (acc.getD j 0).testBit i = true → (∀ e ∈ edgesOf o,D e = true) → D i = true) →
  ∀ j i o,(pre ++ l)[j]? = some o → ((befs l acc).getD j 0).testBit i = true → (∀ e ∈ edgesOf o,D e = true) → D i = true
 | [],pre,acc,hl,hc,h => by simpa [befs] using h
 | o :: r,pre,acc,hl,hc,h => by
  have e1:pre ++ o :: r = (pre ++ [o]) ++ r:=by simp
  intro j i o' hj hb he
  rw [e1] at hj
  refine befs_spec D r (pre ++ [o]) _ (by simp [hl]) (by rw [← e1]; exact hc) ?_ j i o' hj hb he
  intro j i o' hj hb he
  rcases Nat.lt_or_ge j pre.length with hlt | hge
  ·rw [List.getElem?_append_left hlt] at hj
   rw [List.getD_eq_getElem?_getD,List.getElem?_append_left (by omega),← List.getD_eq_getElem?_getD] at hb
   exact h j i o' hj hb he
  ·rw [List.getElem?_append_right hge] at hj
   have hj0:j - pre.length = 0:=by
    cases hq:j - pre.length with
    | zero => rfl
    | succ q => rw [hq] at hj; simp at hj
   rw [hj0] at hj
   simp at hj
   subst hj
   have hjl:j = pre.length:=by omega
   subst hjl
   rw [List.getD_eq_getElem?_getD,← hl,List.getElem?_append_right (Nat.le_refl _)] at hb
   simp at hb
   obtain ⟨e,h1,h2⟩:=mask_bit hb
   rcases h2 with rfl | h2
   ·exact he i h1
   ·have hD:=he e h1
    rcases Nat.lt_or_ge e pre.length with hle | hge'
    ·obtain ⟨oe,hoe⟩:∃ oe,pre[e]? = some oe:=⟨pre[e],List.getElem?_eq_getElem hle⟩
     exact h e i oe hoe h2 (hc e oe (by rw [List.getElem?_append_left hle]; exact hoe) hD)
    ·rw [List.getD_eq_getElem?_getD,List.getElem?_eq_none (by omega)] at h2
     simp at h2
theorem edges_lt:∀ (l:List Oper) (i j:Nat) (o:Oper),edgesOk l i = true → l[j]? = some o → ∀ e ∈ edgesOf o,e < i + j
 | [],i,j,o,_,h => by simp at h
 | o :: r,i,0,o',h,hj => by
  simp at hj; subst hj
  simp only [edgesOk,Bool.and_eq_true,List.all_eq_true,decide_eq_true_eq] at h
  intro e he
  exact h.1 e he
 | o :: r,i,j + 1,o',h,hj => by
  simp only [edgesOk,Bool.and_eq_true] at h
  simp at hj
  intro e he
  have:=edges_lt r (i + 1) j o' h.2 hj e he
  omega
end Go.Proofs.Ytppklhfiajjhmaa.Y
end
section
namespace Go.Proofs.Ytppklhfiajjhmaa.Y
open Go Go.RowKit
set_option linter.unusedVariables false
set_option linter.unusedSimpArgs false
def xgo (P:Program) (E:Eqs) (C:Ctx) (ops:Array Oper):Nat → List Oper → List MV → Mem → List Rec → (List MV → Mem → List Rec → Option Out) → Option Out
 | _,[],tm,m,acc,k => k tm m acc
 | b0,o :: rest,tm,m,acc,k => xoneD P E C ops b0 o tm m (fun tm q => fl (put tm q.dst q.v) (fun tm => fl (setW m q.wr) (fun m => fl (acc ++ [q]) (fun acc => xgo P E C ops (b0 + 1) rest tm m acc k))))
def xdraw (P:Program) (E:Eqs) (C:Ctx) (ops:Array Oper) (tm:List MV) (m:Mem) (k:KS):Option Out :=
 bif edgesOk ops.toList 0 then xgo P E C ops m.length ops.toList tm (m ++ List.replicate ops.toList.length none) [] (fun tm' m' qs => bif chk (befs ops.toList []) (m ++ List.replicate ops.toList.length none) qs then k tm' m' else none) else none
section
variable {P:Program} {E:Eqs} {C:Ctx} {base:Bs} {w0:World}
theorem xgo_ok (hE:EqOk P E) (hC:COk P C) {ops:Array Oper} {k:List MV → Mem → List Rec → Option Out} {r:Out}:∀ (l:List Oper) (b0:Nat) (tm:List MV) (m:Mem) (acc:List Rec),xgo P E C ops b0 l tm m acc k = some r →
  ∃ qs:List Rec,qs.length = l.length ∧ k (tmF qs 0 (fun _ => true) tm) (mF qs 0 (fun _ => true) m) (acc ++ qs) = some r ∧
   ∀ p o q,l[p]? = some o → qs[p]? = some q → Stepper P C.env ops o (tmF qs 0 (fun j => decide (j < p)) tm) (mF qs 0 (fun j => decide (j < p)) m) q
 | [],b0,tm,m,acc,h => ⟨[],rfl,by simpa [xgo,tmF,mF] using h,by intro p o q ho; simp at ho⟩
 | o :: l,b0,tm,m,acc,h => by
  simp only [xgo,fl_eq] at h
  obtain ⟨q,h1,h2⟩:=xoneD_ok hE hC h
  obtain ⟨qs,g1,g2,g3⟩:=xgo_ok hE hC l (b0 + 1) _ _ _ h1
  have shiftT:∀ (qs:List Rec) (i:Nat) (D D':Nat → Bool) (tm:List MV),(∀ j,D' (i + 1 + j) = D (i + j)) → tmF qs (i + 1) D' tm = tmF qs i D tm:=by
   intro qs
   induction qs with
   | nil => intros; rfl
   | cons q qs ih =>
    intro i D D' tm hD
    simp only [tmF]
    have e0:=hD 0
    simp only [Nat.add_zero] at e0
    rw [e0]
    exact ih (i + 1) D D' _ (fun j => by have:=hD (j + 1); rwa [show i + 1 + (j + 1) = i + 1 + 1 + j by omega,show i + (j + 1) = i + 1 + j by omega] at this)
  have shiftM:∀ (qs:List Rec) (i:Nat) (D D':Nat → Bool) (m:Mem),(∀ j,D' (i + 1 + j) = D (i + j)) → mF qs (i + 1) D' m = mF qs i D m:=by
   intro qs
   induction qs with
   | nil => intros; rfl
   | cons q qs ih =>
    intro i D D' m hD
    simp only [mF]
    have e0:=hD 0
    simp only [Nat.add_zero] at e0
    rw [e0]
    exact ih (i + 1) D D' _ (fun j => by have:=hD (j + 1); rwa [show i + 1 + (j + 1) = i + 1 + 1 + j by omega,show i + (j + 1) = i + 1 + j by omega] at this)
  refine ⟨q :: qs,by simp [g1],?_,?_⟩
  ·simp only [tmF,mF,if_true]
   rw [shiftT qs 0 (fun _ => true) _ _ (fun _ => rfl),shiftM qs 0 (fun _ => true) _ _ (fun _ => rfl)]
   simpa using g2
  ·intro p o' q' ho hq
   cases p with
   | zero =>
    simp at ho hq
    subst ho; subst hq
    rw [tmF_none _ _ _ _ (fun j _ => by simp),mF_none _ _ _ _ (fun j _ => by simp)]
    exact h2
   | succ p =>
    simp at ho hq
    have:=g3 p o' q' ho hq
    simp only [tmF,mF]
    rw [if_pos (by simp),if_pos (by simp)]
    rw [shiftT qs 0 (fun j => decide (j < p)) _ _ (fun j => by simp; omega),shiftM qs 0 (fun j => decide (j < p)) _ _ (fun j => by simp; omega)]
    exact this
theorem rm_pad {σ:Sg} {m:Mem} {w:World} (h:RM base w0 σ m w) (n:Nat):RM base w0 σ (m ++ List.replicate n none) w:=by
 have key:∀ (b:Nat) (k:Blk),(m ++ List.replicate n none:Mem)[b]? = some (some k) ↔ m[b]? = some (some k):=by
  intro b k
  rcases Nat.lt_or_ge b m.length with hl | hl
  ·rw [List.getElem?_append_left hl]
  ·rw [List.getElem?_append_right hl]
   have:m[b]? = none:=by simp; omega
   rw [this]
   simp [List.getElem?_replicate]
 exact ⟨fun b k g hb hg => h.blk b k g ((key b k).1 hb) hg,fun b c g k l h1 h2 r1 r2 h3 h4 h5 h6 => h.inj b c g k l ((key b k).1 h1) ((key c l).1 h2) r1 r2 h3 h4 h5 h6,fun b g hg => by obtain ⟨k,hk⟩:=h.dom b g hg; exact ⟨k,(key b k).2 hk⟩,fun b g k hk hg hr => h.lo b g k ((key b k).1 hk) hg hr,fun b g k hk hg hr => h.hi b g k ((key b k).1 hk) hg hr,h.bel,h.base⟩
theorem chk_hits {bf:List Nat} {mp:Mem} {qs:List Rec} (h:chk bf mp qs = true) {i j:Nat} {p q:Rec} (hp:qs[i]? = some p) (hq:qs[j]? = some q) (hne:i ≠ j) (hh:hits p q = true) :
  (bf.getD j 0).testBit i = true ∨ (bf.getD i 0).testBit j = true:=by
 unfold chk at h
 rw [List.all_eq_true] at h
 have h1:=h (p,i) (by rw [List.mem_zipIdx_iff_getElem?]; exact hp)
 simp only [Bool.and_eq_true] at h1
 have h2:=h1.1
 rw [List.all_eq_true] at h2
 have h3:=h2 (q,j) (by rw [List.mem_zipIdx_iff_getElem?]; exact hq)
 simp only [Bool.or_eq_true,beq_iff_eq,Bool.not_eq_true'] at h3
 rcases h3 with ((h3 | h3) | h3) | h3
 ·exact absurd h3 hne
 ·rw [hh] at h3; cases h3
 ·exact .inl h3
 ·exact .inr h3
theorem chk_fresh {bf:List Nat} {mp:Mem} {qs:List Rec} (h:chk bf mp qs = true) {i:Nat} {p:Rec} (hp:qs[i]? = some p) {b:Nat} {k:Blk} (hw:p.wr = some (b,k)) :
  b ∈ p.rd ∨ (mp[b]? = some none ∧ ∀ j q,qs[j]? = some q → i ≠ j → writes q b = true → (bf.getD j 0).testBit i = true):=by
 unfold chk at h
 rw [List.all_eq_true] at h
 have h1:=h (p,i) (by rw [List.mem_zipIdx_iff_getElem?]; exact hp)
 simp only [Bool.and_eq_true] at h1
 have h2:=h1.2
 rw [hw] at h2
 simp only [Bool.or_eq_true,Bool.and_eq_true] at h2
 rcases h2 with h2 | ⟨h2,h3⟩
 ·left; simpa using h2
 ·right
  refine ⟨?_,fun j q hq hne hwr => ?_⟩
  ·unfold freshIn at h2
   split at h2
   ·assumption
   ·cases h2
  ·rw [List.all_eq_true] at h3
   have h4:=h3 (q,j) (by rw [List.mem_zipIdx_iff_getElem?]; exact hq)
   simp only [Bool.or_eq_true,beq_iff_eq,Bool.not_eq_true'] at h4
   rcases h4 with (h4 | h4) | h4
   ·exact absurd h4 hne
   ·rw [hwr] at h4; cases h4
   ·exact h4
theorem count_set {l:List Bool} {i:Nat} (h:l[i]? = some false):(l.set i true).count false + 1 = l.count false:=by
 induction l generalizing i with
 | nil => simp at h
 | cons x l ih =>
  cases i with
  | zero => simp at h; subst h; simp
  | succ i =>
   simp at h
   have:=ih h
   simp only [List.set_cons_succ,List.count_cons]
   omega
theorem draw_any (hE:EqOk P E) (hC:COk P C) {ops:Array Oper} {tm:List MV} {m:Mem} {k:KS} {r:Out} (h:xdraw P E C ops tm m k = some r)
  {σ:Sg} {a:Act} {w:World} (hX:C.env base w0 σ.x) (hR:Rel base w0 σ tm m a w) (Q:Exit → Act → World → Prop)
  (hK:∀ tm' m' σ' a' w',k tm' m' = some r → Ext σ σ' → Rel base w0 σ' tm' m' a' w' → Q .normal a' w'):wpAny P .any ops Q ops.size (Array.replicate ops.size false) a { w with drawn:=w.drawn + 1 }:=by
 unfold xdraw at h
 cases hedge:edgesOk ops.toList 0 with
 | false => rw [hedge] at h; cases h
 | true =>
 rw [hedge] at h
 simp only [cond_true] at h
 obtain ⟨qs,hlen,hfin,hst⟩:=xgo_ok hE hC _ _ _ _ _ h
 generalize hmp:m ++ List.replicate ops.toList.length none = mp at *
 simp only [List.nil_append] at hfin
 cases hchk:chk (befs ops.toList []) mp qs with
 | false => rw [hchk] at hfin; cases hfin
 | true =>
 rw [hchk] at hfin
 simp only [cond_true] at hfin
 have hn:ops.size = ops.toList.length:=by simp
 -- the relation that is kept
 let Inv:Array Bool → Act → World → Prop:=fun L a w => L.size = ops.size ∧ Closed ops.toList (fun j => L.getD j false) ∧ ∃ σ',Ext σ σ' ∧ Rel base w0 σ' (tmF qs 0 (fun j => L.getD j false) tm) (mF qs 0 (fun j => L.getD j false) mp) a w
 have getD_lt:∀ (L:Array Bool) j,L.getD j false = true → j < L.size:=by
  intro L j hj
  rcases Nat.lt_or_ge j L.size with hl | hl
  ·exact hl
  ·simp [Array.getD,Nat.not_lt.2 hl] at hj
 have all_done:∀ L a w,Inv L a w → (∀ j,j < ops.size → L.getD j false = true) → Q .normal a w:=by
  intro L a w ⟨hsz,_,σ',hx,hrel⟩ hall
  have e1:tmF qs 0 (fun j => L.getD j false) tm = tmF qs 0 (fun _ => true) tm:=by
   apply List.ext_getElem?
   intro t
   rw [tmF_get,tmF_get,lastT_congr qs 0 (fun j => L.getD j false) (fun _ => true) t (fun j q hj _ => by
    have:j < qs.length:=(List.getElem?_eq_some_iff.1 hj).1
    simp only [Nat.zero_add]
    exact hall j (by omega))]
  have e2:mF qs 0 (fun j => L.getD j false) mp = mF qs 0 (fun _ => true) mp:=by
   apply List.ext_getElem?
   intro b
   rw [mF_get,mF_get,lastB_congr qs 0 (fun j => L.getD j false) (fun _ => true) b (fun j q hj _ => by
    have:j < qs.length:=(List.getElem?_eq_some_iff.1 hj).1
    simp only [Nat.zero_add]
    exact hall j (by omega))]
  rw [e1,e2] at hrel
  exact hK _ _ σ' a w hfin hx hrel
 have ready_mem:∀ (L:Array Bool) i,i ∈ Region.ready .any ops L ↔ ∃ o,ops.toList[i]? = some o ∧ L.getD i true = false ∧ ∀ e ∈ edgesOf o,L.getD e false = true:=by
  intro L i
  unfold Region.ready
  rw [List.mem_filter]
  constructor
  ·rintro ⟨h1,h2⟩
   have hi:i < ops.size:=by simpa using h1
   refine ⟨ops[i],by simp [hi],?_⟩
   simp only [Bool.and_eq_true,Bool.not_eq_true',hi,getElem?_pos,Option.map_some,Option.getD_some,Array.all_eq_true_iff_forall_mem] at h2
   refine ⟨h2.1,fun e he => ?_⟩
   unfold edgesOf at he
   rw [List.mem_map] at he
   obtain ⟨x,hx1,rfl⟩:=he
   rw [List.mem_filter] at hx1
   have:=h2.2 x (by simpa using hx1.1)
   simp only [Bool.or_eq_true,Bool.not_eq_true'] at this
   rcases this with h3 | h3
   ·rw [hx1.2] at h3; cases h3
   ·exact h3
  ·rintro ⟨o,ho,h1,h2⟩
   have hi:i < ops.size:=by rw [hn]; exact (List.getElem?_eq_some_iff.1 ho).1
   refine ⟨by simpa using hi,?_⟩
   have ho':ops[i]? = some o:=by simpa using ho
   simp only [h1,ho',Option.map_some,Option.getD_some,Bool.not_false,Bool.true_and,Array.all_eq_true_iff_forall_mem]
   intro e he
   simp only [Bool.or_eq_true,Bool.not_eq_true']
   cases hb:Region.binds .any e with
   | false => exact .inl rfl
   | true =>
    right
    exact h2 e.on (by unfold edgesOf; rw [List.mem_map]; exact ⟨e,by rw [List.mem_filter]; exact ⟨by simpa using he,hb⟩,rfl⟩)
 have some_ready:∀ (L:Array Bool),L.size = ops.size → ∀ j,j < ops.size → L.getD j false = false → Region.ready .any ops L ≠ []:=by
  intro L hsz j
  induction j using Nat.strongRecOn with
  | _ j ih =>
   intro hj hLj
   obtain ⟨o,ho⟩:∃ o,ops.toList[j]? = some o:=⟨ops[j],by simp [hj]⟩
   by_cases hall:∀ e ∈ edgesOf o,L.getD e false = true
   ·intro hnil
    have:j ∈ Region.ready .any ops L:=(ready_mem L j).2 ⟨o,ho,by simp [Array.getD,hsz,hj] at hLj ⊢; exact hLj,hall⟩
    rw [hnil] at this
    cases this
   ·have hex:∃ e,e ∈ edgesOf o ∧ ¬ L.getD e false = true:=Classical.byContradiction fun hne => hall fun e he => Classical.byContradiction fun hh => hne ⟨e,he,hh⟩
    obtain ⟨e,he,hLe⟩:=hex
    have hlt:=edges_lt ops.toList 0 j o hedge ho e he
    exact ih e (by omega) (by omega) (by simpa using hLe)
 have step:∀ L i a w,Inv L a w → i ∈ Region.ready .any ops L → ∀ K:Act → World → Prop,(∀ a' w',Inv (L.setIfInBounds i true) a' w' → K a' w') → wpOp P ops Q i K a w:=by
  intro L i a w ⟨hsz,hcl,σ',hx,hrel⟩ hi K hKK
  obtain ⟨o,ho,hLi,hedges⟩:=(ready_mem L i).1 hi
  have hi0:i < ops.size:=by rw [hn]; exact (List.getElem?_eq_some_iff.1 ho).1
  have hLi':L.getD i false = false:=by simp [Array.getD,hsz,hi0] at hLi ⊢; exact hLi
  obtain ⟨q,hq⟩:∃ q,qs[i]? = some q:=⟨qs[i]'(by omega),List.getElem?_eq_getElem (by omega)⟩
  obtain ⟨hdst,hstep⟩:=hst i o q ho hq
  have hspec:=befs_spec (fun j => L.getD j false) ops.toList [] [] rfl hcl (by intro j i o hj; simp at hj)
  simp only [List.nil_append] at hspec
  -- whoever must run ahead of i is done,and stands ahead; whoever waits for i is not done,and stands behind
  have before:∀ j,((befs ops.toList []).getD i 0).testBit j = true → L.getD j false = true ∧ j < i:=by
   intro j hj
   refine ⟨hspec i j o ho hj hedges,?_⟩
   have hcl2:Closed ops.toList (fun x => decide (x < i)):=by
    intro x ox hox hxi e he
    have:=edges_lt ops.toList 0 x ox hedge hox e he
    simp only [decide_eq_true_eq] at hxi ⊢
    omega
   have h2:=befs_spec (fun x => decide (x < i)) ops.toList [] [] rfl hcl2 (by intro j i o hj; simp at hj)
   simp only [List.nil_append] at h2
   have:=h2 i j o ho hj (fun e he => by have:=edges_lt ops.toList 0 i o hedge ho e he; simp only [decide_eq_true_eq]; omega)
   simpa using this
  have behind:∀ j,j < ops.size → ((befs ops.toList []).getD j 0).testBit i = true → L.getD j false = false ∧ i < j:=by
   intro j hj hb
   obtain ⟨oj,hoj⟩:∃ oj,ops.toList[j]? = some oj:=⟨ops[j],by simp [hj]⟩
   constructor
   ·cases hLj:L.getD j false with
    | false => rfl
    | true =>
     have:=hspec j i oj hoj hb (fun e he => hcl j oj hoj hLj e he)
     rw [this] at hLi'
     cases hLi'
   ·have hcl2:Closed ops.toList (fun x => decide (x < j)):=by
     intro x ox hox hxi e he
     have:=edges_lt ops.toList 0 x ox hedge hox e he
     simp only [decide_eq_true_eq] at hxi ⊢
     omega
    have h2:=befs_spec (fun x => decide (x < j)) ops.toList [] [] rfl hcl2 (by intro j i o hj; simp at hj)
    simp only [List.nil_append] at h2
    have:=h2 j i oj hoj hb (fun e he => by have:=edges_lt ops.toList 0 j oj hedge hoj e he; simp only [decide_eq_true_eq]; omega)
    simpa using this
  have meet:∀ j q',qs[j]? = some q' → j ≠ i → (hits q' q = true ∨ hits q q' = true) → L.getD j false = decide (j < i):=by
   intro j q' hq' hne hh
   have hj:j < ops.size:=by have:=(List.getElem?_eq_some_iff.1 hq').1; omega
   have hor:((befs ops.toList []).getD j 0).testBit i = true ∨ ((befs ops.toList []).getD i 0).testBit j = true:=by
    rcases hh with hh | hh
    ·exact (chk_hits hchk hq' hq hne hh).symm
    ·exact chk_hits hchk hq hq' (Ne.symm hne) hh
   rcases hor with hb | hb
   ·obtain ⟨h1,h2⟩:=behind j hj hb
    rw [h1]; simp; omega
   ·obtain ⟨h1,h2⟩:=before j hb
    rw [h1]; simp [h2]
  have hDi:∀ (D:Nat → Bool),D = (fun j => L.getD j false) → D i = false:=by intro D hD; rw [hD]; exact hLi'
  -- what i reads reads as in the text's order
  have readT:∀ t ∈ q.tr,(tmF qs 0 (fun j => L.getD j false) tm)[t]? = (tmF qs 0 (fun j => decide (j < i)) tm)[t]?:=by
   intro t ht
   rw [tmF_get,tmF_get,lastT_congr qs 0 (fun j => L.getD j false) (fun j => decide (j < i)) t]
   intro j q' hj hd
   simp only [Nat.zero_add]
   by_cases e:j = i
   ·subst e; rw [hLi']; simp
   ·exact meet j q' hj e (.inl (by unfold hits; rw [hd]; simp [ht]))
  have readB:∀ b ∈ q.rd,(mF qs 0 (fun j => L.getD j false) mp)[b]? = (mF qs 0 (fun j => decide (j < i)) mp)[b]?:=by
   intro b hb
   rw [mF_get,mF_get,lastB_congr qs 0 (fun j => L.getD j false) (fun j => decide (j < i)) b]
   intro j q' hj hw
   simp only [Nat.zero_add]
   by_cases e:j = i
   ·subst e; rw [hLi']; simp
   ·refine meet j q' hj e (.inl ?_)
    unfold writes at hw
    unfold hits
    cases hwr:q'.wr with
    | none => rw [hwr] at hw; cases hw
    | some p => obtain ⟨c,kk⟩:=p; rw [hwr] at hw; simp only [beq_iff_eq] at hw; subst hw; simp [hb]
  have freshB:∀ b kk,q.wr = some (b,kk) → b ∈ q.rd ∨ (b < (mF qs 0 (fun j => L.getD j false) mp).length ∧ ∀ k',(mF qs 0 (fun j => L.getD j false) mp)[b]? ≠ some (some k')):=by
   intro b kk hw
   rcases chk_fresh hchk hq hw with h1 | ⟨h1,h2⟩
   ·exact .inl h1
   ·right
    have hl:lastB qs 0 (fun j => L.getD j false) b = none:=by
     apply lastB_none
     intro j q' hj hwr
     simp only [Nat.zero_add]
     by_cases e:i = j
     ·subst e; exact hLi'
     ·exact (behind j (by have:=(List.getElem?_eq_some_iff.1 hj).1; omega) (h2 j q' hj e hwr)).1
    refine ⟨by rw [mF_len]; exact (List.getElem?_eq_some_iff.1 h1).1,fun k' hk' => ?_⟩
    rw [mF_get,hl,h1] at hk'
    simp at hk'
  -- behind it
  have hL2:∀ j,(L.setIfInBounds i true).getD j false = if j = i then true else L.getD j false:=by
   intro j
   by_cases e:j = i
   ·subst e; simp [Array.getD,hsz,hi0]
   ·simp only [Array.getD,Array.size_setIfInBounds]
    rw [if_neg e]
    split
    ·rename_i hj
     rw [Array.getInternal_eq_getElem,Array.getElem_setIfInBounds_ne (by omega) (Ne.symm e)]
     rfl
    ·rfl
  have putT:put (tmF qs 0 (fun j => L.getD j false) tm) q.dst q.v = tmF qs 0 (fun j => (L.setIfInBounds i true).getD j false) tm:=by
   apply List.ext_getElem?
   intro t
   rw [put_get,tmF_len]
   by_cases hd:q.dst = some t
   ·have hh:=lastT_hit qs 0 i (fun j => (L.setIfInBounds i true).getD j false) t q hq hd (by simp only [Nat.zero_add]; rw [hL2]; simp) (fun j q' hlt hj hd' => by
     simp only [Nat.zero_add]
     rw [hL2,if_neg (by omega),meet j q' hj (by omega) (.inr (by unfold hits; rw [hd]; simp [hd']))]
     simp; omega)
    rw [tmF_get,tmF_get,hh]
    simp only
    by_cases hl:t < tm.length
    ·simp [hd,hl]
    ·have:tm[t]? = none:=by simp; omega
     simp only [hd,hl,and_false,if_false,this]
     cases lastT qs 0 (fun j => L.getD j false) t <;> rfl
   ·rw [if_neg (fun x => hd x.1),tmF_get,tmF_get,lastT_congr qs 0 (fun j => L.getD j false) (fun j => (L.setIfInBounds i true).getD j false) t]
    intro j q' hj hd'
    simp only [Nat.zero_add]
    rw [hL2,if_neg]
    rintro rfl
    rw [hq] at hj
    injection hj with hj
    subst hj
    exact hd hd'
  have putB:setW (mF qs 0 (fun j => L.getD j false) mp) q.wr = mF qs 0 (fun j => (L.setIfInBounds i true).getD j false) mp:=by
   apply List.ext_getElem?
   intro b
   rw [setW_get,mF_len]
   cases hw:q.wr with
   | none =>
    simp only
    rw [mF_get,mF_get,lastB_congr qs 0 (fun j => L.getD j false) (fun j => (L.setIfInBounds i true).getD j false) b]
    intro j q' hj hw'
    simp only [Nat.zero_add]
    rw [hL2,if_neg]
    rintro rfl
    rw [hq] at hj
    injection hj with hj
    subst hj
    simp [writes,hw] at hw'
   | some p =>
    obtain ⟨c,kk⟩:=p
    simp only
    by_cases e:c = b
    ·subst e
     have hh:=lastB_hit qs 0 i (fun j => (L.setIfInBounds i true).getD j false) c kk q hq hw (by simp only [Nat.zero_add]; rw [hL2]; simp) (fun j q' hlt hj hd' => by
      simp only [Nat.zero_add]
      rw [hL2,if_neg (by omega),meet j q' hj (by omega) (.inr (by
       unfold writes at hd'
       unfold hits
       rw [hw]
       cases hwr:q'.wr with
       | none => rw [hwr] at hd'; cases hd'
       | some p => obtain ⟨c',k'⟩:=p; rw [hwr] at hd'; simp only [beq_iff_eq] at hd'; subst hd'; simp))]
      simp; omega)
     rw [mF_get,mF_get,hh]
     simp only
     by_cases hl:c < mp.length
     ·simp [hl]
     ·have:mp[c]? = none:=by simp; omega
      simp only [hl,and_false,if_false,this]
      cases lastB qs 0 (fun j => L.getD j false) c <;> rfl
    ·rw [if_neg (fun x => e x.1),mF_get,mF_get,lastB_congr qs 0 (fun j => L.getD j false) (fun j => (L.setIfInBounds i true).getD j false) b]
     intro j q' hj hw'
     simp only [Nat.zero_add]
     rw [hL2,if_neg]
     rintro rfl
     rw [hq] at hj
     injection hj with hj
     subst hj
     simp [writes,hw,e] at hw'
  have hcl':Closed ops.toList (fun j => (L.setIfInBounds i true).getD j false):=by
   intro j oj hoj hj e he
   simp only [hL2] at hj ⊢
   by_cases e1:j = i
   ·subst e1
    rw [ho] at hoj
    injection hoj with hoj
    subst hoj
    split
    ·rfl
    ·exact hedges e he
   ·rw [if_neg e1] at hj
    split
    ·rfl
    ·exact hcl j oj hoj hj e he
  have main:=hstep base w0 σ' _ _ a w K Q (by rw [hx.x]; exact hX) hrel readT readB freshB (fun σ'' a' w' hx' hrel' => hKK a' w' ⟨by simp [hsz],hcl',σ'',hx.trans hx',by rw [putT,putB] at hrel'; exact hrel'⟩)
  unfold wpOp
  have ho':ops[i]? = some o:=by simpa using ho
  simp only [ho']
  split
  ·rename_i hwa
   rw [if_pos hwa] at main
   exact .inl main
  ·rename_i hwa
   rw [if_neg hwa] at main
   exact main
 have run:∀ fuel L a w,Inv L a w → L.toList.count false = fuel → wpAny P .any ops Q fuel L a w:=by
  intro fuel
  induction fuel with
  | zero =>
   intro L a w hI hc
   have hall:∀ j,j < ops.size → L.getD j false = true:=by
    intro j hj
    cases hLj:L.getD j false with
    | true => rfl
    | false =>
     have hs:=hI.1
     have hjj:L.toList[j]? = some false:=by
      have:j < L.size:=by omega
      simp [Array.getD,this] at hLj
      simp [this,hLj]
     have:=count_set hjj
     omega
   refine ⟨?_,all_done L a w hI hall⟩
   cases hr:Region.ready .any ops L with
   | nil => rfl
   | cons i rest =>
    have hi:i ∈ Region.ready .any ops L:=by rw [hr]; exact List.mem_cons_self
    obtain ⟨o,ho,hLi,_⟩:=(ready_mem L i).1 hi
    have hi0:i < ops.size:=by rw [hn]; exact (List.getElem?_eq_some_iff.1 ho).1
    have h1:=hall i hi0
    have hs:=hI.1
    simp [Array.getD,hs,hi0] at h1 hLi
    rw [h1] at hLi
    cases hLi
  | succ fuel ih =>
   intro L a w hI hc
   refine ⟨fun hnil => all_done L a w hI (fun j hj => ?_),fun i hi => ?_⟩
   ·cases hLj:L.getD j false with
    | true => rfl
    | false => exact absurd hnil (some_ready L hI.1 j hj hLj)
   ·refine step L i a w hI hi _ (fun a' w' hI' => ih _ a' w' hI' ?_)
    obtain ⟨o,ho,hLi,_⟩:=(ready_mem L i).1 hi
    have hi0:i < ops.size:=by rw [hn]; exact (List.getElem?_eq_some_iff.1 ho).1
    have hs:=hI.1
    have hii:L.toList[i]? = some false:=by
     have:i < L.size:=by omega
     simp [Array.getD,this] at hLi
     simp [this,hLi]
    have:=count_set hii
    rw [Array.toList_setIfInBounds]
    omega
 refine run _ _ _ _ ⟨by simp,?_,σ,Ext.refl σ,?_⟩ (by simp)
 ·intro j o hj hD
  simp [Array.getD] at hD
 ·rw [tmF_none _ _ _ _ (fun j _ => by simp [Array.getD]),mF_none _ _ _ _ (fun j _ => by simp [Array.getD])]
  refine ⟨hR.df,hR.tm,?_⟩
  rw [← hmp]
  exact (rm_pad hR.mem _).drew
theorem draw_ok (hE:EqOk P E) (hC:COk P C) (hm:P.follows .mixedOrders = true) {id:Nat} {ops:Array Oper} {tm:List MV} {m:Mem} {k:KS} {r:Out} (h:xdraw P E C ops tm m k = some r)
  {σ:Sg} {a:Act} {w:World} (hX:C.env base w0 σ.x) (hR:Rel base w0 σ tm m a w) (Q:Exit → Act → World → Prop)
  (hK:∀ tm' m' σ' a' w',k tm' m' = some r → Ext σ σ' → Rel base w0 σ' tm' m' a' w' → Q .normal a' w'):(Code.region id ops true).wp P Q a w :=
 wp_region_any hm (draw_any hE hC h hX hR Q hK)
end
end Go.Proofs.Ytppklhfiajjhmaa.Y
end
section
namespace Go.Proofs.Ytppklhfiajjhmaa.Y
open Go Go.RowKit
set_option linter.unusedVariables false
set_option linter.unusedSimpArgs false
inductive XE where
 | normal
 | exit (id:Nat)
 | ret
def XE.out:XE → Exit
 | .normal => .normal
 | .exit id => .exit id
 | .ret => .ret
abbrev KE:=XE → List MV → Mem → Option Out
def xloop (body:List MV → Mem → KE → Option Out):Nat → List MV → Mem → KE → Option Out
 | 0,_,_,_ => none
 | n + 1,tm,m,k => body tm m (fun e tm m => match e with
  | .normal => xloop body n tm m k
  | .exit id => k (.exit id) tm m
  | .ret => k .ret tm m)
def xcode (P:Program) (E:Eqs) (C:Ctx) (n:Nat):Code → List MV → Mem → KE → Option Out
 | .skip,tm,m,k => k .normal tm m
 | .region _ ops draw,tm,m,k => bif draw then xdraw P E C ops tm m (k .normal) else xops P E C ops ops.toList tm m (k .normal)
 | .seq a b,tm,m,k => xcode P E C n a tm m (fun e tm m => match e with
  | .normal => xcode P E C n b tm m k
  | .exit id => k (.exit id) tm m
  | .ret => k .ret tm m)
 | .cond c a b,tm,m,k => match c with
  | .tmp t => match tm[t]? with
   | some (.val (.bool v)) => bif v then xcode P E C n a (tm.set t (.val (.bool true))) m k else xcode P E C n b (tm.set t (.val (.bool false))) m k
   | _ => none
  | _ => none
 | .block id c,tm,m,k => xcode P E C n c tm m (fun e tm m => match e with
  | .normal => k .normal tm m
  | .exit i => bif i == id then k .normal tm m else k (.exit i) tm m
  | .ret => k .ret tm m)
 | .loop c,tm,m,k => xloop (fun tm m k => xcode P E C n c tm m k) n tm m k
 | .exit id,tm,m,k => k (.exit id) tm m
 | .ret,tm,m,k => k .ret tm m
 | _,_,_,_ => none
def xres1 (P:Program) (tm:List MV) (m:Mem):ResultVar → Option MV
 | .tmp t => some (tm.getD t (.val undef))
 | .cell a t => match tm.getD a (.val undef) with
  | .ptr b o => match rdM m b with
   | some k => partV P t k.cells o
   | none => none
  | _ => none
def xres (P:Program) (tm:List MV) (m:Mem):List ResultVar → Option (List MV)
 | [] => some []
 | x :: l => match xres1 P tm m x,xres P tm m l with
  | some v,some vs => some (v :: vs)
  | _,_ => none
def xpack:List MV → MV
 | [v] => v
 | l => .tup l
def xfun (P:Program) (E:Eqs) (C:Ctx) (n f:Nat) (args:List MV) (m:Mem) (k:KM):Option Out :=
 match P.funcs[f]? with
 | some fn => match fn.body with
  | some c => xcode P E C n c (args ++ List.replicate (fn.ntmps - args.length) (.val undef)) m (fun e tm m => match e with
   | .exit _ => none
   | _ => match xres P tm m fn.results.toList with
    | some vs => k (xpack vs) m
    | none => none)
  | none => none
 | none => none
section
variable {P:Program} {E:Eqs} {C:Ctx} {base:Bs} {w0:World}
theorem set_same {tm:List MV} {t:Nat} {v:MV} (h:tm[t]? = some v):tm.set t v = tm:=by
 apply List.ext_getElem?
 intro i
 have hlt:t < tm.length:=(List.getElem?_eq_some_iff.1 h).1
 rw [List.getElem?_set]
 split
 ·rename_i e; subst e; first | exact h.symm | (rw [if_pos hlt]; exact h.symm) | simp_all
 ·rfl
theorem xcode_ok (hE:EqOk P E) (hC:COk P C) (hm:P.follows .mixedOrders = true) {n:Nat}:∀ (c:Code) {tm:List MV} {m:Mem} {k:KE} {r:Out},xcode P E C n c tm m k = some r →
  ∀ {σ:Sg} {a:Act} {w:World} {Q:Exit → Act → World → Prop},C.env base w0 σ.x → Rel base w0 σ tm m a w →
  (∀ e tm' m' σ' a' w',k e tm' m' = some r → Ext σ σ' → Rel base w0 σ' tm' m' a' w' → Q e.out a' w') → c.wp P Q a w:=by
 intro c
 induction c with
 | skip => intro tm m k r h σ a w Q hX hR hK; exact wp_skip (hK .normal _ _ σ a w h (Ext.refl σ) hR)
 | region id ops draw =>
  intro tm m k r h σ a w Q hX hR hK
  cases draw with
  | true =>
   simp only [xcode,cond_true] at h
   exact draw_ok hE hC hm h hX hR Q (fun tm' m' σ' a' w' h1 h2 h3 => hK .normal tm' m' σ' a' w' h1 h2 h3)
  | false =>
   simp only [xcode,cond_false] at h
   exact wp_region_list (xops_ok hE hC _ h hX hR (fun tm' m' σ' a' w' h1 h2 h3 => hK .normal tm' m' σ' a' w' h1 h2 h3))
 | seq x y ihx ihy =>
  intro tm m k r h σ a w Q hX hR hK
  simp only [xcode] at h
  refine wp_seq (ihx h hX hR ?_)
  intro e tm' m' σ' a' w' h1 h2 h3
  cases e with
  | normal => exact ihy h1 (by rw [h2.x]; exact hX) h3 (fun e tm'' m'' σ'' a'' w'' g1 g2 g3 => hK e tm'' m'' σ'' a'' w'' g1 (h2.trans g2) g3)
  | exit id => exact hK (.exit id) tm' m' σ' a' w' h1 h2 h3
  | ret => exact hK .ret tm' m' σ' a' w' h1 h2 h3
 | cond c x y ihx ihy =>
  intro tm m k r h σ a w Q hX hR hK
  simp only [xcode] at h
  split at h
  ·rename_i t
   split at h
   ·rename_i v hv
    obtain ⟨u,h1,h2⟩:=RVs.get t hR.tm hv
    have e1:=h2.val_inv
    subst e1
    have hev:a.eval (.tmp t) = .bool v:=by
     show a.tmps.getD t undef = _
     have:a.tmps[t]? = some (.bool v):=by simpa using h1
     simp [Array.getD_eq_getD_getElem?,this]
    refine wp_cond hev ?_
    cases v with
    | true =>
     simp only [cond_true] at h
     rw [set_same hv] at h
     exact ihx h hX hR hK
    | false =>
     simp only [cond_false] at h
     rw [set_same hv] at h
     exact ihy h hX hR hK
   ·simp at h
  ·simp at h
 | block id c ih =>
  intro tm m k r h σ a w Q hX hR hK
  simp only [xcode] at h
  refine wp_block (ih h hX hR ?_)
  intro e tm' m' σ' a' w' h1 h2 h3
  cases e with
  | normal => exact hK .normal tm' m' σ' a' w' h1 h2 h3
  | exit i =>
   simp only [XE.out,Exit.inBlock]
   by_cases hi:i = id
   ·rw [if_pos hi]
    subst hi
    simp only [beq_self_eq_true,cond_true] at h1
    exact hK .normal tm' m' σ' a' w' h1 h2 h3
   ·rw [if_neg hi]
    have:(i == id) = false:=by simpa using hi
    simp only [this,cond_false] at h1
    exact hK (.exit i) tm' m' σ' a' w' h1 h2 h3
  | ret => exact hK .ret tm' m' σ' a' w' h1 h2 h3
 | loop c ih =>
  intro tm m k r h σ a w Q hX hR hK
  simp only [xcode] at h
  intro b kk cs
  have key:∀ j tm m σ' a w,xloop (fun tm m k => xcode P E C n c tm m k) j tm m k = some r → Ext σ σ' → Rel base w0 σ' tm m a w →
    ∃ e a' w',Q e a' w' ∧ Arrives P (lone (b.at a (.code c :: .inLoop c :: kk)) cs w) b kk cs e a' w':=by
   intro j
   induction j with
   | zero => intro tm m σ' a w h; simp [xloop] at h
   | succ j ihj =>
    intro tm m σ' a w h hx hR
    simp only [xloop] at h
    have hw:=ih (Q:=fun e a' w' => match e with
     | .normal => ∃ tm' m' σ'',xloop (fun tm m k => xcode P E C n c tm m k) j tm' m' k = some r ∧ Ext σ σ'' ∧ Rel base w0 σ'' tm' m' a' w'
     | e => Q e a' w') h (by rw [hx.x]; exact hX) hR (by
      intro e tm' m' σ'' a' w' h1 h2 h3
      cases e with
      | normal => exact ⟨tm',m',σ'',h1,hx.trans h2,h3⟩
      | exit id => exact hK (.exit id) tm' m' σ'' a' w' h1 (hx.trans h2) h3
      | ret => exact hK .ret tm' m' σ'' a' w' h1 (hx.trans h2) h3)
    obtain ⟨e,a₁,w₁,hq,harr⟩:=hw b (.inLoop c :: kk) cs
    cases e with
    | normal =>
     obtain ⟨tm',m',σ'',g1,g2,g3⟩:=hq
     obtain ⟨e₂,a₂,w₂,hq₂,harr₂⟩:=ihj tm' m' σ'' a₁ w₁ g1 g2 g3
     exact ⟨e₂,a₂,w₂,hq₂,.of_steps (Steps.trans harr (.one step_inLoop)) harr₂⟩
    | exit id => exact ⟨_,a₁,w₁,hq,.pass (x:=.inLoop c) rfl (fun _ _ => .inl (by simp)) harr⟩
    | goto l => exact ⟨_,a₁,w₁,hq,.pass (x:=.inLoop c) rfl (fun _ _ => .inl (by simp)) harr⟩
    | ret => exact ⟨_,a₁,w₁,hq,.pass (x:=.inLoop c) rfl (fun _ _ => .inl (by simp)) harr⟩
    | panic ch => exact ⟨_,a₁,w₁,hq,.pass (x:=.inLoop c) rfl (fun _ _ => .inl (by simp)) harr⟩
    | outgrown => exact ⟨_,a₁,w₁,hq,.pass (x:=.inLoop c) rfl (fun _ _ => .inl (by simp)) harr⟩
  obtain ⟨e,a',w',hq,harr⟩:=key n tm m σ a w h (Ext.refl σ) hR
  exact ⟨e,a',w',hq,.of_steps (.one step_loop) harr⟩
 | exit id => intro tm m k r h σ a w Q hX hR hK; exact wp_exit (hK (.exit id) _ _ σ a w h (Ext.refl σ) hR)
 | ret => intro tm m k r h σ a w Q hX hR hK; exact wp_ret (hK .ret _ _ σ a w h (Ext.refl σ) hR)
 | rangeFunc f ps as b _ _ => intro tm m k r h; simp [xcode] at h
 | scope c _ => intro tm m k r h; simp [xcode] at h
 | label l => intro tm m k r h; simp [xcode] at h
 | goto l => intro tm m k r h; simp [xcode] at h
 | refuse s => intro tm m k r h; simp [xcode] at h
theorem xres_ok {σ:Sg} {tm:List MV} {m:Mem} {a:Act} {w:World} (hR:Rel base w0 σ tm m a w):∀ {l:List ResultVar} {vs:List MV},xres P tm m l = some vs →
  ∃ us:List Value,(∀ f:ResultVar → Sem Value,(∀ t,f (.tmp t) = pure (a.tmps.getD t undef)) → (∀ b t,f (.cell b t) = (do loadVar t (← asAddr (a.tmps.getD b undef)))) → (l.mapM f).run P w = .ok us w) ∧ RVs σ vs us
 | [],vs,h => by simp [xres] at h; subst h; exact ⟨[],fun _ _ _ => rfl,by simp [RVs]⟩
 | x :: l,vs,h => by
  simp only [xres] at h
  cases h1:xres1 P tm m x with
  | none => simp [h1] at h
  | some v =>
   cases h2:xres P tm m l with
   | none => simp [h1,h2] at h
   | some vs' =>
    simp [h1,h2] at h
    subst h
    obtain ⟨us,g1,g2⟩:=xres_ok hR h2
    have hx:∃ u,(∀ f:ResultVar → Sem Value,(∀ t,f (.tmp t) = pure (a.tmps.getD t undef)) → (∀ b t,f (.cell b t) = (do loadVar t (← asAddr (a.tmps.getD b undef)))) → (f x).run P w = .ok u w) ∧ RV σ v u:=by
     cases x with
     | tmp t =>
      simp only [xres1,Option.some.injEq] at h1
      subst h1
      exact ⟨_,fun f q1 q2 => by rw [q1]; rfl,ev_ok hR.tm (.tmp t)⟩
     | cell b t =>
      simp only [xres1] at h1
      split at h1
      ·rename_i b' o hb
       split at h1
       ·rename_i kk hk
        have e:=ev_ok hR.tm (.tmp b)
        have e':RV σ (tm.getD b (.val undef)) (a.tmps.getD b undef):=e
        rw [hb] at e'
        obtain ⟨g,hg,e2⟩:=e'.ptr_inv
        obtain ⟨pre,cs,rest,⟨tyh,frh,f1,_⟩,f2,_,f5,_⟩:=hR.mem.reads.at hk hg
        obtain ⟨u,f3,f4⟩:=load_pre h1 f2 f1
        rw [f5] at f3
        exact ⟨u,fun f q1 q2 => by rw [q2]; simp only [e2,asAddr,Sem.run_bind,Sem.run_pure,Result.andThen_ok,f3],f4⟩
       ·simp at h1
      ·simp at h1
    obtain ⟨u,f1,f2⟩:=hx
    refine ⟨u :: us,fun f q1 q2 => ?_,by simp only [RVs]; exact ⟨u,us,rfl,f2,g2⟩⟩
    rw [List.mapM_cons,Sem.run_bind,f1 f q1 q2]
    simp only [Result.andThen_ok,Sem.run_bind]
    rw [g1 f q1 q2]
    rfl
theorem results_ok {σ:Sg} {tm:List MV} {m:Mem} {a:Act} {w:World} (hR:Rel base w0 σ tm m a w) {fn:Func} {vs:List MV} (h:xres P tm m fn.results.toList = some vs) :
  ∃ u,(results fn a.tmps).run P w = .ok u w ∧ RV σ (xpack vs) u:=by
 obtain ⟨us,h1,h2⟩:=xres_ok hR h
 have h3:∀ f:ResultVar → Sem Value,(∀ t,f (.tmp t) = pure (a.tmps.getD t undef)) → (∀ b t,f (.cell b t) = (do loadVar t (← asAddr (a.tmps.getD b undef)))) → (fn.results.mapM f).run P w = .ok us.toArray w:=by
  intro f q1 q2
  have h1:=h1 f q1 q2
  rw [← Array.toList_mapM,Sem.run_map] at h1
  cases hr:(fn.results.mapM f).run P w with
  | ok x w' =>
   rw [hr] at h1
   simp only [Result.andThen_ok] at h1
   injection h1 with k1 k2
   subst k2
   congr 1
   apply Array.ext'
   rw [k1]
  | halt x w' => rw [hr] at h1; simp at h1
 have hl:=h2.length
 refine ⟨if h:us.toArray.size = 1 then us.toArray[0] else .tuple us.toArray,?_,?_⟩
 ·unfold results
  rw [Sem.run_bind]
  rw [h3 _ (fun _ => rfl) (fun _ _ => rfl)]
  rfl
 ·match vs,us,h2,hl with
  | [],[],h2,_ => simp only [xpack,RV]; exact ⟨[],by simp [RVs],by simp⟩
  | [v],[u],h2,_ =>
   simp only [RVs] at h2
   obtain ⟨u',r',e,f1,f2⟩:=h2
   simp only [List.cons.injEq] at e
   simp only [xpack]
   simpa [e.1] using f1
  | v :: v' :: l,u :: u' :: us,h2,_ => simp only [xpack,RV]; exact ⟨_,h2,by simp⟩
theorem xfun_ok (hE:EqOk P E) (hC:COk P C) (hm:P.follows .mixedOrders = true) {n f:Nat} {args:List MV} {m:Mem} {k:KM} {r:Out} (h:xfun P E C n f args m k = some r)
  {σ:Sg} {us:List Value} {w:World} (hX:C.env base w0 σ.x) (hu:RVs σ args us) (hM:RM base w0 σ m w) :
  Calls P f us.toArray w fun e w' => ∃ v m' σ' u,k v m' = some r ∧ e = .returned u ∧ Ext σ σ' ∧ RV σ' v u ∧ RM base w0 σ' m' w':=by
 unfold xfun at h
 split at h
 ·rename_i fn hf
  split at h
  ·rename_i c hb
   have hl:=hu.length
   refine calls_of_wp hf hb (xcode_ok hE hC hm c h (σ:=σ) hX ⟨rfl,?_,hM⟩ ?_)
   ·have e:(us.toArray ++ Array.replicate (fn.ntmps - us.toArray.size) undef).toList = us ++ List.replicate (fn.ntmps - args.length) undef:=by simp [hl]
    rw [e]
    refine hu.append ?_
    have:=RVs.vals (σ:=σ) (List.replicate (fn.ntmps - args.length) undef)
    simpa using this
   ·intro e tm' m' σ' a' w' h1 h2 h3
    cases e with
    | exit id => simp at h1
    | normal =>
     simp only at h1
     split at h1
     ·rename_i vs hv
      obtain ⟨u,g1,g2⟩:=results_ok h3 hv
      exact ⟨h3.df,u,g1,_,m',σ',u,h1,rfl,h2,g2,h3.mem⟩
     ·simp at h1
    | ret =>
     simp only at h1
     split at h1
     ·rename_i vs hv
      obtain ⟨u,g1,g2⟩:=results_ok h3 hv
      exact ⟨h3.df,u,g1,_,m',σ',u,h1,rfl,h2,g2,h3.mem⟩
     ·simp at h1
  ·simp at h
 ·simp at h
theorem inl_ok (hE:EqOk P E) (hC:COk P C) (hm:P.follows .mixedOrders = true) (n f:Nat):IOk P C.env f (fun args m k => xfun P E C n f args m k):=by
 intro args m k r h base w0 σ us w hX hu hM
 exact xfun_ok hE hC hm h hX hu hM
def none0 (x:Nat → Value):Sg:=⟨fun _ => none,fun _ => 0,x,fun _ => 0⟩
theorem rm_nil (w:World) (x:Nat → Value):RM ⟨w.heap.size,fun _ => False⟩ w (none0 x) [] w:=⟨by intro b k g h; simp at h,by intro b c g k l h; simp at h,(fun b g h => nomatch (show (none:Option Nat) = some g from h)),(by intro b g k h; simp at h),(by intro b g k h; simp at h),Bel.refl _ _,Nat.le_refl _⟩
theorem top_ok (hE:EqOk P E) (hC:COk P C) (hN:∀ b w x,C.env b w x) (hm:P.follows .mixedOrders = true) {n f:Nat} {args:List MV} {us:List Value} {v:MV} {u:Value}
  (h:xfun P E C n f args [] (fun v _ => some (v,[])) = some (v,[])) (hu:∀ σ,RVs σ args us) (hv:∀ σ u',RV σ v u' → u' = u) (w:World) :
  Calls P f us.toArray w fun e w' => e = .returned u ∧ Below w.heap.size w w':=by
 refine Calls.mono (xfun_ok hE hC hm h (hN _ _ _) (hu (none0 fun _ => undef)) (rm_nil w _)) ?_
 rintro e w' ⟨v',m',σ',u',h1,rfl,_,h2,h3⟩
 simp only [Option.some.injEq,Prod.mk.injEq,and_true] at h1
 subst h1
 exact ⟨by rw [hv σ' u' h2],h3.bel.to⟩
end
end Go.Proofs.Ytppklhfiajjhmaa.Y
end
