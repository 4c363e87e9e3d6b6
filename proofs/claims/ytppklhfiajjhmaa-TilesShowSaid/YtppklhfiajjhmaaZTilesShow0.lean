/- What is proved: texts of the law TilesShow, joined by program. Conditions: none but those in each statement. -/
import Derived.WalkKit
import Derived.Below
import Derived.Orders
section
namespace Go.Proofs.Ytppklhfiajjhmaa.Y
open Go Go.RowKit
set_option linter.unusedVariables false
inductive MV where
 | val (v:Value)
 | ptr (b o:Nat)
 | sl (b o n c:Nat)
 | gs (b o n s:Nat)
 | fn (f:Nat) (first cap:List MV)
 | agg (l:List MV)
 | tup (l:List MV)
 | pe (b s i o:Nat)
 | va (b i n s:Nat)
 | xs (x n:Nat)
 | es
 | any
 | gv (b n s:Nat)
 | ext (i:Nat)
 | junk
 deriving Inhabited
inductive Row where
 | lst (l:List MV)
 | recs (sh:List (Option IntKind)) (l:List (List Int))
 | rlst (l:List MV)
 | rrecs (sh:List (Option IntKind)) (l:List (List Int))
structure Blk where
 row:Row
 ty:Nat
def recC:List (Option IntKind) → Nat → List Int → List MV
 | [],_,_ => []
 | some k :: sh,c,r => .val (.int k (r.getD c 0)) :: recC sh (c + 1) r
 | none :: sh,c,r => .val (.bool (r.getD c 0 != 0)) :: recC sh (c + 1) r
theorem recC_len:∀ (sh:List (Option IntKind)) (c:Nat) (r:List Int),(recC sh c r).length = sh.length
 | [],_,_ => rfl
 | some k :: sh,c,r => by simp [recC,recC_len sh]
 | none :: sh,c,r => by simp [recC,recC_len sh]
def Blk.cells (k:Blk):List MV:=match k.row with
 | .lst l => l
 | .recs sh l => l.flatMap (recC sh 0)
 | .rlst l => l
 | .rrecs sh l => l.flatMap (recC sh 0)
def Blk.ro (k:Blk):Bool:=match k.row with
 | .lst _ => false
 | .recs _ _ => false
 | .rlst _ => true
 | .rrecs _ _ => true
def Blk.rec? (k:Blk):Option (List (Option IntKind) × List (List Int)):=match k.row with
 | .recs sh l => some (sh,l)
 | .rrecs sh l => some (sh,l)
 | _ => none
theorem Blk.rec_cells {k:Blk} {sh:List (Option IntKind)} {l:List (List Int)} (h:k.rec? = some (sh,l)):k.cells = l.flatMap (recC sh 0):=by
 obtain ⟨row,ty⟩:=k
 unfold Blk.rec? at h
 cases row <;> simp at h <;> obtain ⟨rfl,rfl⟩:=h <;> rfl
@[simp] theorem Blk.cells_lst (l:List MV) (ty:Nat):(⟨.lst l,ty⟩:Blk).cells = l:=rfl
theorem Blk.cells_recs (sh:List (Option IntKind)) (l:List (List Int)) (ty:Nat):(⟨.recs sh l,ty⟩:Blk).cells = l.flatMap (recC sh 0):=rfl
abbrev Mem:=List (Option Blk)
abbrev Out:=MV × Mem
def Value.atom:Value → Bool
 | .agg _ | .tuple _ => false
 | _ => true
structure Sg where
 f:Nat → Option Nat
 κ:Nat → Nat
 x:Nat → Value
 off:Nat → Nat
instance:CoeFun Sg (fun _ => Nat → Option Nat):=⟨Sg.f⟩
mutual
def RV (σ:Sg):MV → Value → Prop
 | .val v,u => u = v
 | .ptr b o,u => ∃ g,σ b = some g ∧ u = .pointer (some ⟨g,σ.off b + o,none⟩)
 | .sl b o n c,u => ∃ g,σ b = some g ∧ u = .slice (some ⟨g,σ.off b + o,none⟩) n c
 | .gs b o n s,u => ∃ g c,σ b = some g ∧ u = .slice (some ⟨g,σ.off b + o,none⟩) n c ∧ n ≤ c ∧ o + c * s = σ.κ b
 | .fn f x y,u => ∃ xs ys,RVs σ x xs ∧ RVs σ y ys ∧ u = .func (.func f) xs.toArray ys.toArray
 | .agg l,u => ∃ xs,RVs σ l xs ∧ u = .agg xs.toArray
 | .tup l,u => ∃ xs,RVs σ l xs ∧ u = .tuple xs.toArray
 | .pe b s i o,u => ∃ g,σ b = some g ∧ u = .pointer (some ⟨g,σ.off b + (i * s + o),none⟩)
 | .va b i n s,u => ∃ A c,u = .slice A n c ∧ n ≤ c ∧ (0 < n → ∃ g,σ b = some g ∧ A = some ⟨g,σ.off b + i * s,none⟩)
 | .xs x n,u => u = σ.x x ∧ ∃ A c,u = .slice A n c
 | .es,u => ∃ A c,u = .slice A 0 c
 | .any,u => Value.atom u = true
 | .gv b n s,u => ∃ A c,u = .slice A n c ∧ n ≤ c ∧ (n = 0 → c = 0) ∧ (0 < c → ∃ g,σ b = some g ∧ A = some ⟨g,σ.off b,none⟩ ∧ c * s = σ.κ b)
 | .ext i,u => u = σ.x i ∧ Value.atom u = true
 | .junk,_ => True
def RVs (σ:Sg):List MV → List Value → Prop
 | [],us => us = []
 | x :: l,us => ∃ u r,us = u :: r ∧ RV σ x u ∧ RVs σ l r
end
structure Ext (σ τ:Sg):Prop where
 x:τ.x = σ.x
 to:∀ b g,σ b = some g → τ b = some g ∧ τ.κ b = σ.κ b ∧ τ.off b = σ.off b
theorem Ext.refl (σ:Sg):Ext σ σ:=⟨rfl,fun _ _ h => ⟨h,rfl,rfl⟩⟩
theorem Ext.trans {σ τ υ:Sg} (h:Ext σ τ) (k:Ext τ υ):Ext σ υ:=⟨k.x.trans h.x,fun b g e => ⟨(k.to b g (h.to b g e).1).1,(k.to b g (h.to b g e).1).2.1.trans (h.to b g e).2.1,(k.to b g (h.to b g e).1).2.2.trans (h.to b g e).2.2⟩⟩
mutual
theorem RV.ext {σ τ:Sg} (h:Ext σ τ):∀ (x:MV) (u:Value),RV σ x u → RV τ x u
 | .val v,u,e => by simp only [RV] at e ⊢; exact e
 | .ptr b o,u,e => by simp only [RV] at e ⊢; obtain ⟨g,e1,e2⟩:=e; exact ⟨g,(h.to _ _ e1).1,by rw [(h.to _ _ e1).2.2]; exact e2⟩
 | .sl b o n c,u,e => by simp only [RV] at e ⊢; obtain ⟨g,e1,e2⟩:=e; exact ⟨g,(h.to _ _ e1).1,by rw [(h.to _ _ e1).2.2]; exact e2⟩
 | .gs b o n s,u,e => by simp only [RV] at e ⊢; obtain ⟨g,c,e1,e2,e3,e4⟩:=e; exact ⟨g,c,(h.to _ _ e1).1,by rw [(h.to _ _ e1).2.2]; exact e2,e3,by rw [(h.to _ _ e1).2.1,e4]⟩
 | .fn f x y,u,e => by
  simp only [RV] at e ⊢; obtain ⟨xs,ys,e1,e2,e3⟩:=e
  exact ⟨xs,ys,RVs.ext h x xs e1,RVs.ext h y ys e2,e3⟩
 | .agg l,u,e => by simp only [RV] at e ⊢; obtain ⟨xs,e1,e2⟩:=e; exact ⟨xs,RVs.ext h l xs e1,e2⟩
 | .tup l,u,e => by simp only [RV] at e ⊢; obtain ⟨xs,e1,e2⟩:=e; exact ⟨xs,RVs.ext h l xs e1,e2⟩
 | .pe b s i o,u,e => by simp only [RV] at e ⊢; obtain ⟨g,e1,e2⟩:=e; exact ⟨g,(h.to _ _ e1).1,by rw [(h.to _ _ e1).2.2]; exact e2⟩
 | .va b i n s,u,e => by
  simp only [RV] at e ⊢; obtain ⟨A,c,e1,e2,e3⟩:=e
  exact ⟨A,c,e1,e2,fun hn => by obtain ⟨g,f1,f2⟩:=e3 hn; exact ⟨g,(h.to _ _ f1).1,by rw [(h.to _ _ f1).2.2]; exact f2⟩⟩
 | .xs x n,u,e => by simp only [RV] at e ⊢; rw [h.x]; exact e
 | .es,u,e => by simp only [RV] at e ⊢; exact e
 | .any,u,e => by simp only [RV] at e ⊢; exact e
 | .gv b n s,u,e => by
  simp only [RV] at e ⊢; obtain ⟨A,c,e1,e2,e0,e3⟩:=e
  exact ⟨A,c,e1,e2,e0,fun hn => by obtain ⟨g,f1,f2,f3⟩:=e3 hn; exact ⟨g,(h.to _ _ f1).1,by rw [(h.to _ _ f1).2.2]; exact f2,by rw [(h.to _ _ f1).2.1]; exact f3⟩⟩
 | .ext i,u,e => by simp only [RV] at e ⊢; rw [h.x]; exact e
 | .junk,u,e => by simp only [RV]
theorem RVs.ext {σ τ:Sg} (h:Ext σ τ):∀ (l:List MV) (us:List Value),RVs σ l us → RVs τ l us
 | [],us,e => by simp only [RVs] at e ⊢; exact e
 | x :: l,us,e => by
  simp only [RVs] at e ⊢; obtain ⟨u,r,e1,e2,e3⟩:=e
  exact ⟨u,r,e1,RV.ext h x u e2,RVs.ext h l r e3⟩
end
section lists
variable {σ:Sg}
theorem RVs.length:∀ {l:List MV} {us:List Value},RVs σ l us → us.length = l.length
 | [],us,e => by simp only [RVs] at e; simp [e]
 | x :: l,us,e => by
  simp only [RVs] at e; obtain ⟨u,r,rfl,_,e3⟩:=e
  simp [RVs.length e3]
theorem RVs.get:∀ {l:List MV} {us:List Value} (k:Nat) {x:MV},RVs σ l us → l[k]? = some x → ∃ u,us[k]? = some u ∧ RV σ x u
 | [],us,k,x,e,h => by simp at h
 | y :: l,us,0,x,e,h => by
  simp only [RVs] at e; obtain ⟨u,r,rfl,e2,_⟩:=e
  simp at h; subst h
  exact ⟨u,by simp,e2⟩
 | y :: l,us,k + 1,x,e,h => by
  simp only [RVs] at e; obtain ⟨u,r,rfl,_,e3⟩:=e
  simp at h
  obtain ⟨u',h1,h2⟩:=RVs.get k e3 h
  exact ⟨u',by simpa using h1,h2⟩
theorem RVs.none_get {l:List MV} {us:List Value} (k:Nat) (e:RVs σ l us) (h:l[k]? = none):us[k]? = none:=by
 have:=e.length
 simp at h ⊢; omega
theorem RVs.set:∀ {l:List MV} {us:List Value} (k:Nat) {x:MV} {u:Value},RVs σ l us → RV σ x u → RVs σ (l.set k x) (us.set k u)
 | [],us,k,x,u,e,h => by simp only [RVs] at e; subst e; simp [RVs]
 | y :: l,us,0,x,u,e,h => by
  simp only [RVs] at e; obtain ⟨v,r,rfl,_,e3⟩:=e
  simp only [List.set_cons_zero,RVs]; exact ⟨u,r,rfl,h,e3⟩
 | y :: l,us,k + 1,x,u,e,h => by
  simp only [RVs] at e; obtain ⟨v,r,rfl,e2,e3⟩:=e
  simp only [List.set_cons_succ,RVs]; exact ⟨v,r.set k u,rfl,e2,RVs.set k e3 h⟩
theorem RVs.append:∀ {l m:List MV} {us vs:List Value},RVs σ l us → RVs σ m vs → RVs σ (l ++ m) (us ++ vs)
 | [],m,us,vs,e,h => by simp only [RVs] at e; subst e; simpa using h
 | y :: l,m,us,vs,e,h => by
  simp only [RVs] at e; obtain ⟨v,r,rfl,e2,e3⟩:=e
  simp only [List.cons_append,RVs]; exact ⟨v,r ++ vs,rfl,e2,RVs.append e3 h⟩
theorem RVs.drop:∀ {l:List MV} {us:List Value} (k:Nat),RVs σ l us → RVs σ (l.drop k) (us.drop k)
 | l,us,0,e => by simpa using e
 | [],us,k + 1,e => by simp only [RVs] at e; subst e; simp [RVs]
 | y :: l,us,k + 1,e => by
  simp only [RVs] at e; obtain ⟨v,r,rfl,_,e3⟩:=e
  simpa using RVs.drop k e3
theorem RVs.take:∀ {l:List MV} {us:List Value} (k:Nat),RVs σ l us → RVs σ (l.take k) (us.take k)
 | l,us,0,e => by simp [RVs]
 | [],us,k + 1,e => by simp only [RVs] at e; subst e; simp [RVs]
 | y :: l,us,k + 1,e => by
  simp only [RVs] at e; obtain ⟨v,r,rfl,e2,e3⟩:=e
  simp only [List.take_succ_cons,RVs]; exact ⟨v,r.take k,rfl,e2,RVs.take k e3⟩
theorem RVs.vals:∀ (l:List Value),RVs σ (l.map .val) l
 | [] => by simp [RVs]
 | v :: l => by simp only [List.map_cons,RVs]; exact ⟨v,l,rfl,by simp [RV],RVs.vals l⟩
theorem RVs.map {α:Type} (f:α → MV) (g:α → Value) (l:List α) (h:∀ x ∈ l,RV σ (f x) (g x)):RVs σ (l.map f) (l.map g):=by
 induction l with
 | nil => simp [RVs]
 | cons a l ih =>
  simp only [List.map_cons,RVs]
  exact ⟨_,_,rfl,h a List.mem_cons_self,ih (fun x hx => h x (List.mem_cons_of_mem _ hx))⟩
theorem RVs.vals_inv:∀ {l:List Value} {us:List Value},RVs σ (l.map .val) us → us = l
 | [],us,e => by simpa [RVs] using e
 | v :: l,us,e => by
  simp only [List.map_cons,RVs] at e; obtain ⟨u,r,rfl,e2,e3⟩:=e
  simp only [RV] at e2
  rw [e2,RVs.vals_inv e3]
end lists
def MV.cells:MV → List MV
 | .agg l => l
 | .val (.agg cs) => cs.toList.map .val
 | v => [v]
def MV.solid:MV → Bool
 | .junk => false
 | _ => true
theorem RV.cells {σ:Sg} {x:MV} {u:Value} (h:RV σ x u) (hs:x.solid = true):RVs σ x.cells u.cells.toList:=by
 cases x with
 | val v =>
  simp only [RV] at h; subst h
  cases u <;> simp [MV.cells,Value.cells,RVs,RV,RVs.vals]
 | agg l => simp only [RV] at h; obtain ⟨xs,h1,rfl⟩:=h; simpa [MV.cells,Value.cells] using h1
 | ptr b o => have h':=h; simp only [RV] at h'; obtain ⟨g,h1,rfl⟩:=h'; simp [MV.cells,Value.cells,RVs,h]
 | sl b o n c => have h':=h; simp only [RV] at h'; obtain ⟨g,h1,rfl⟩:=h'; simp [MV.cells,Value.cells,RVs,h]
 | gs b o n s => have h':=h; simp only [RV] at h'; obtain ⟨g,c,h1,rfl,_⟩:=h'; simp [MV.cells,Value.cells,RVs,h]
 | fn f x y => have h':=h; simp only [RV] at h'; obtain ⟨_,_,_,_,rfl⟩:=h'; simp [MV.cells,Value.cells,RVs,h]
 | tup l => have h':=h; simp only [RV] at h'; obtain ⟨_,_,rfl⟩:=h'; simp [MV.cells,Value.cells,RVs,h]
 | pe b s i o => have h':=h; simp only [RV] at h'; obtain ⟨g,h1,rfl⟩:=h'; simp [MV.cells,Value.cells,RVs,h]
 | va b i n s => have h':=h; simp only [RV] at h'; obtain ⟨_,_,rfl,_⟩:=h'; simp [MV.cells,Value.cells,RVs,h]
 | xs x n =>
  have h':=h
  simp only [RV] at h'
  obtain ⟨h1,A,c,h2⟩:=h'
  have e:u.cells.toList = [u]:=by rw [h2]; rfl
  simp only [MV.cells,RVs]
  exact ⟨u,[],e,h,rfl⟩
 | es => have h':=h; simp only [RV] at h'; obtain ⟨_,_,rfl⟩:=h'; simp [MV.cells,Value.cells,RVs,h]
 | any =>
  have h':=h
  simp only [RV] at h'
  have e:u.cells.toList = [u]:=by cases u <;> simp_all [Value.atom,Value.cells]
  simp only [MV.cells,RVs]
  exact ⟨u,[],e,h,rfl⟩
 | gv b n s => have h':=h; simp only [RV] at h'; obtain ⟨_,_,rfl,_⟩:=h'; simp [MV.cells,Value.cells,RVs,h]
 | ext i =>
  have h':=h
  simp only [RV] at h'
  obtain ⟨_,h1⟩:=h'
  have e:u.cells.toList = [u]:=by cases u <;> simp_all [Value.atom,Value.cells]
  simp only [MV.cells,RVs]
  exact ⟨u,[],e,h,rfl⟩
 | junk => cases hs
def MV.atom:MV → Bool
 | .agg _ | .tup _ | .val (.agg _) | .val (.tuple _) | .junk => false
 | _ => true
theorem RV.atom {σ:Sg} {x:MV} {u:Value} (h:RV σ x u) (ha:x.atom = true):Value.atom u = true:=by
 cases x with
 | val v => simp only [RV] at h; subst h; cases u <;> simp_all [MV.atom,Value.atom]
 | agg l => simp [MV.atom] at ha
 | tup l => simp [MV.atom] at ha
 | ptr b o => simp only [RV] at h; obtain ⟨_,_,rfl⟩:=h; rfl
 | sl b o n c => simp only [RV] at h; obtain ⟨_,_,rfl⟩:=h; rfl
 | gs b o n s => simp only [RV] at h; obtain ⟨_,_,_,rfl,_⟩:=h; rfl
 | pe b s i o => simp only [RV] at h; obtain ⟨_,_,rfl⟩:=h; rfl
 | va b i n s => simp only [RV] at h; obtain ⟨_,_,rfl,_⟩:=h; rfl
 | xs x n => simp only [RV] at h; obtain ⟨_,_,_,e⟩:=h; rw [e]; rfl
 | es => simp only [RV] at h; obtain ⟨_,_,rfl⟩:=h; rfl
 | any => simpa only [RV] using h
 | gv b n s => simp only [RV] at h; obtain ⟨_,_,rfl,_⟩:=h; rfl
 | ext i => simp only [RV] at h; exact h.2
 | junk => cases ha
 | fn f x y => simp only [RV] at h; obtain ⟨_,_,_,_,rfl⟩:=h; rfl
def ev (tm:List MV):Operand → MV
 | .tmp t => tm.getD t (.val undef)
 | .const v => .val v
 | .global g => .val (.pointer (some ⟨g,0,none⟩))
 | .func f => .fn f [] []
theorem ev_ok {σ:Sg} {tm:List MV} {a:Act} (h:RVs σ tm a.tmps.toList) (x:Operand):RV σ (ev tm x) (a.eval x):=by
 cases x with
 | tmp t =>
  show RV σ (tm.getD t (.val undef)) (a.tmps.getD t undef)
  have e:a.tmps.getD t undef = (a.tmps.toList[t]?).getD undef:=by simp
  rw [e,List.getD_eq_getElem?_getD]
  cases hk:tm[t]? with
  | none => rw [RVs.none_get t h hk]; simp [RV]
  | some y => obtain ⟨u,h1,h2⟩:=RVs.get t h hk; rw [h1]; simpa using h2
 | const v => simp [ev,RV,Act.eval]
 | global g => simp [ev,RV,Act.eval]
 | func f => simp only [ev,RV,Act.eval]; exact ⟨[],[],by simp [RVs],by simp [RVs],rfl⟩
structure Bs where
 n:Nat
 L:Nat → Prop
def Own (B:Bs) (g:Nat):Prop:=B.n ≤ g ∨ B.L g
structure Bel (B:Bs) (w w':World):Prop where
 os:w'.os = w.os
 tape:w'.tape = w.tape
 output:w'.output = w.output
 size:w.heap.size ≤ w'.heap.size
 block:∀ k,¬ Own B k → w'.heap[k]? = w.heap[k]?
theorem Bel.refl (B:Bs) (w:World):Bel B w w:=⟨rfl,rfl,rfl,Nat.le_refl _,fun _ _ => rfl⟩
theorem Bel.trans {B:Bs} {a b c:World} (h:Bel B a b) (k:Bel B b c):Bel B a c :=
 ⟨k.os.trans h.os,k.tape.trans h.tape,k.output.trans h.output,Nat.le_trans h.size k.size,fun i hi => (k.block i hi).trans (h.block i hi)⟩
theorem Bel.below {B:Bs} {a b c:World} (h:Bel B a b) (k:Below b.heap.size b c) (hn:B.n ≤ b.heap.size):Bel B a c :=
 h.trans ⟨k.os,k.tape,k.output,k.size,fun i hi => k.block i (by
  rcases Nat.lt_or_ge i B.n with h | h
  ·omega
  ·exact absurd (.inl h) hi)⟩
theorem Bel.to {n:Nat} {a b:World} (h:Bel ⟨n,fun _ => False⟩ a b):Below n a b :=
 ⟨h.os,h.tape,h.output,h.size,fun k hk => h.block k (by rintro (h | h); exact absurd h (Nat.not_le.2 hk); exact h)⟩
def AtH (w:World) (g:Nat) (k:Blk) (cs:List Value):Prop:=∃ ty fr,w.heap[g]? = some (.cells cs.toArray ty fr) ∧ (k.ro = false → ty = k.ty ∧ fr = (0,0))
theorem AtH.mk {w:World} {g:Nat} {k:Blk} {cs:List Value} (h:w.heap[g]? = some (.cells cs.toArray k.ty (0,0))):AtH w g k cs:=⟨_,_,h,fun _ => ⟨rfl,rfl⟩⟩
theorem AtH.own {w:World} {g:Nat} {k:Blk} {cs:List Value} (h:AtH w g k cs) (hr:k.ro = false):w.heap[g]? = some (.cells cs.toArray k.ty (0,0)):=by
 obtain ⟨ty,fr,h1,h2⟩:=h
 obtain ⟨rfl,rfl⟩:=h2 hr
 exact h1
theorem AtH.lt {w:World} {g:Nat} {k:Blk} {cs:List Value} (h:AtH w g k cs):g < w.heap.size:=by
 obtain ⟨ty,fr,h1,_⟩:=h
 exact (Array.getElem?_eq_some_iff.1 h1).1
theorem AtH.step {w w':World} {g:Nat} {k:Blk} {cs:List Value} (h:AtH w g k cs) (e:w'.heap[g]? = w.heap[g]?):AtH w' g k cs:=by
 obtain ⟨ty,fr,h1,h2⟩:=h
 exact ⟨ty,fr,e.trans h1,h2⟩
theorem AtH.as {w:World} {g:Nat} {k l:Blk} {cs:List Value} (h:AtH w g k cs) (e:l.ro = false → k.ro = false ∧ l.ty = k.ty):AtH w g l cs:=by
 obtain ⟨ty,fr,h1,h2⟩:=h
 refine ⟨ty,fr,h1,fun hl => ?_⟩
 obtain ⟨e1,e2⟩:=e hl
 obtain ⟨f1,f2⟩:=h2 e1
 exact ⟨f1.trans e2.symm,f2⟩
structure RM (base:Bs) (w0:World) (σ:Sg) (m:Mem) (w:World):Prop where
 blk:∀ b k g,m[b]? = some (some k) → σ b = some g → ∃ pre cs rest,AtH w g k (pre ++ (cs ++ rest)) ∧ RVs σ k.cells cs ∧ (cs ++ rest).length = σ.κ b ∧ pre.length = σ.off b ∧ (k.ro = false → pre = [])
 inj:∀ b c g k l,m[b]? = some (some k) → m[c]? = some (some l) → k.ro = false → l.ro = false → k.cells ≠ [] → l.cells ≠ [] → σ b = some g → σ c = some g → b = c
 dom:∀ b g,σ b = some g → ∃ k,m[b]? = some (some k)
 lo:∀ b g k,m[b]? = some (some k) → σ b = some g → k.ro = false → Own base g
 hi:∀ b g k,m[b]? = some (some k) → σ b = some g → k.ro = true → k.cells ≠ [] → ¬ Own base g
 bel:Bel base w0 w
 base:base.n ≤ w.heap.size
structure Rel (base:Bs) (w0:World) (σ:Sg) (tm:List MV) (m:Mem) (a:Act) (w:World):Prop where
 df:a.defers = []
 tm:RVs σ tm a.tmps.toList
 mem:RM base w0 σ m w
def put (tm:List MV):Option Nat → MV → List MV
 | some d,v => tm.set d v
 | none,_ => tm
theorem put_ok {σ:Sg} {tm:List MV} {a:Act} (h:RVs σ tm a.tmps.toList) (dst:Option Nat) {x:MV} {u:Value} (hx:RV σ x u):RVs σ (put tm dst x) (a.put dst u).tmps.toList:=by
 cases dst with
 | none => exact h
 | some d => simp only [put,Act.put,Array.toList_setIfInBounds]; exact RVs.set d h hx
end Go.Proofs.Ytppklhfiajjhmaa.Y
end
