/- What is proved: texts of the law TilesShow, joined by program. Conditions: none but those in each statement. -/
import Derived.Test.YtppklhfiajjhmaaZTilesShow1
import Derived.Laws.StructEq
section
namespace Go.Proofs.Ytppklhfiajjhmaa.Y
open Go Go.RowKit
set_option linter.unusedVariables false
set_option linter.unusedSimpArgs false
def eqFs (P:Program) (R:Nat → MV → MV → Option Bool) (xs ys:List MV):List Field → Option Bool
 | [] => some true
 | f :: r => match f.name == "_" with
  | true => eqFs P R xs ys r
  | false => match partV P f.type xs f.offset,partV P f.type ys f.offset with
   | some a,some b => match R f.type a b,eqFs P R xs ys r with
    | some p,some q => some (p && q)
    | _,_ => none
   | _,_ => none
def eqIs (P:Program) (R:Nat → MV → MV → Option Bool) (e c:Nat) (xs ys:List MV):List Nat → Option Bool
 | [] => some true
 | i :: r => match partV P e xs (i * c),partV P e ys (i * c) with
  | some a,some b => match R e a b,eqIs P R e c xs ys r with
   | some p,some q => some (p && q)
   | _,_ => none
  | _,_ => none
def xeq (P:Program):Nat → Nat → MV → MV → Option Bool
 | 0,_,_,_ => none
 | d + 1,t,x,y => match P.underlying t with
  | some .bool => match x,y with
   | .val (.bool a),.val (.bool b) => some (a == b)
   | _,_ => none
  | some (.int _) => match x,y with
   | .val (.int k a),.val (.int k' b) => if k = k' then some (a == b) else none
   | _,_ => none
  | some (.struct fs) => match x,y with
   | .agg xs,.agg ys => bif P.stoodInHeld t then none else eqFs P (xeq P d) xs ys fs.toList
   | _,_ => none
  | some (.array n e) => match x,y with
   | .agg xs,.agg ys => match szT P e with
    | some c => eqIs P (xeq P d) e c xs ys (List.range n)
    | none => none
   | _,_ => none
  | _ => none
def EX (P:Program):Eqs:=fun t xs ys => bif P.eqGuardType P.depth t then none else xeq P 6 t (.agg xs) (.agg ys)
section
variable {P:Program} {σ:Sg}
theorem eqFs_ok {R:Nat → MV → MV → Option Bool} {d:Nat} {w:World} (hR:∀ t x y r u v,R t x y = some r → RV σ x u → RV σ y v → (Op.equalIn d t u v).run P w = .ok r w) {xs ys:List MV} {us vs:List Value} (hx:RVs σ xs us) (hy:RVs σ ys vs) :
  ∀ (fs:List Field) (r:Bool),eqFs P R xs ys fs = some r → (Op.eqFields d us.toArray vs.toArray fs).run P w = .ok r w
 | [],r,h => by simp [eqFs] at h; subst h; simp [Op.eqFields]
 | f :: fs,r,h => by
  simp only [eqFs] at h
  split at h
  ·rename_i hn
   have : ¬ f.name ≠ "_" := by simpa using hn
   rw [Op.eqFields,if_neg this]
   exact eqFs_ok hR hx hy fs r h
  ·rename_i hn
   have hn' : f.name ≠ "_" := by simpa using hn
   split at h
   ·rename_i a b ha hb
    split at h
    ·rename_i p q hp hq
     injection h with h; subst h
     obtain ⟨u,g1,g2⟩:=run_part ha hx w
     obtain ⟨v,g3,g4⟩:=run_part hb hy w
     have g5:=hR _ _ _ _ _ _ hp g2 g4
     have g6:=eqFs_ok hR hx hy fs q hq
     rw [Op.eqFields]
     simp only [if_pos hn',Sem.run_bind,g1,g3,g5,Result.andThen_ok]
     cases p
     ·simp
     ·simpa using g6
    ·simp at h
   ·simp at h
theorem eqIs_ok {R:Nat → MV → MV → Option Bool} {d e c:Nat} {w:World} (hR:∀ t x y r u v,R t x y = some r → RV σ x u → RV σ y v → (Op.equalIn d t u v).run P w = .ok r w) {xs ys:List MV} {us vs:List Value} (hx:RVs σ xs us) (hy:RVs σ ys vs) :
  ∀ (is:List Nat) (r:Bool),eqIs P R e c xs ys is = some r → (Op.eqItems d e c us.toArray vs.toArray is).run P w = .ok r w
 | [],r,h => by simp [eqIs] at h; subst h; simp [Op.eqItems]
 | i :: is,r,h => by
  simp only [eqIs] at h
  split at h
  ·rename_i a b ha hb
   split at h
   ·rename_i p q hp hq
    injection h with h; subst h
    obtain ⟨u,g1,g2⟩:=run_part ha hx w
    obtain ⟨v,g3,g4⟩:=run_part hb hy w
    have g5:=hR _ _ _ _ _ _ hp g2 g4
    have g6:=eqIs_ok hR hx hy is q hq
    rw [Op.eqItems]
    simp only [Sem.run_bind,g1,g3,g5,Result.andThen_ok]
    cases p
    ·simp
    ·simpa using g6
   ·simp at h
  ·simp at h
theorem xeq_ok:∀ (d t:Nat) (x y:MV) (r:Bool),xeq P d t x y = some r → ∀ (k:Nat) (u v:Value) (w:World),RV σ x u → RV σ y v → (Op.equalIn (d + k) t u v).run P w = .ok r w
 | 0,t,x,y,r,h => by simp [xeq] at h
 | d + 1,t,x,y,r,h => by
  intro k u v w hx hy
  have ih:=fun w (t:Nat) (x y:MV) (r:Bool) (u v:Value) (h:xeq P d t x y = some r) (hx:RV σ x u) (hy:RV σ y v) => xeq_ok d t x y r h k u v w hx hy
  rw [show d + 1 + k = (d + k) + 1 by omega]
  simp only [xeq] at h
  split at h
  ·rename_i hu
   split at h
   ·have e1:=hx.val_inv
    have e2:=hy.val_inv
    subst e1; subst e2
    injection h with h; subst h
    simp [Op.equalIn,underlying,hu]
   ·simp at h
  ·rename_i ki hu
   split at h
   ·split at h
    ·rename_i e
     have e1:=hx.val_inv
     have e2:=hy.val_inv
     subst e; subst e1; subst e2
     injection h with h; subst h
     simp [Op.equalIn,underlying,hu]
    ·simp at h
   ·simp at h
  ·rename_i fs hu
   split at h
   ·rename_i xs ys
    cases hs:P.stoodInHeld t with
    | true => rw [hs] at h; simp at h
    | false =>
     rw [hs] at h
     simp only [cond_false] at h
     obtain ⟨us,h1,rfl⟩:=hx.agg_inv
     obtain ⟨vs,h2,rfl⟩:=hy.agg_inv
     have hf:P.fieldsOf t = fs:=by simp [Program.fieldsOf,hu]
     rw [run_equalIn_struct (P:=P) w (d + k) t us.toArray vs.toArray (by rw [hf]; exact hu) hs,hf]
     exact eqFs_ok (fun t x y r u v a b c => ih w t x y r u v a b c) h1 h2 fs.toList r h
   ·simp at h
  ·rename_i n e hu
   split at h
   ·rename_i xs ys
    split at h
    ·rename_i c hc
     obtain ⟨us,h1,rfl⟩:=hx.agg_inv
     obtain ⟨vs,h2,rfl⟩:=hy.agg_inv
     obtain ⟨i,hi⟩:∃ i,P.info? e = some i:=by
      unfold szT at hc
      cases hi:P.info? e with
      | none => simp [hi] at hc
      | some i => exact ⟨i,rfl⟩
     have hce:P.cellsOf e = c:=by
      unfold szT at hc
      simpa [Program.cellsOf,hi] using hc
     rw [run_equalIn_array (P:=P) w (d + k) us.toArray vs.toArray hu hi,hce]
     exact eqIs_ok (fun t x y r u v a b c => ih w t x y r u v a b c) h1 h2 (List.range n) r h
    ·simp at h
   ·simp at h
  ·simp at h
theorem EX_ok (P:Program):EqOk P (EX P):=by
 intro t xs ys r h σ us vs w x y op hx hy ho
 unfold EX at h
 cases hg:P.eqGuardType P.depth t with
 | true => rw [hg] at h; simp at h
 | false =>
  rw [hg] at h
  simp only [cond_false] at h
  have hu:RV σ (.agg xs) (.agg us.toArray):=by simp only [RV]; exact ⟨us,hx,rfl⟩
  have hv:RV σ (.agg ys) (.agg vs.toArray):=by simp only [RV]; exact ⟨vs,hy,rfl⟩
  have key:(Op.equal t (.agg us.toArray) (.agg vs.toArray)).run P w = .ok r w:=xeq_ok 6 t _ _ r h 9994 _ _ w hu hv
  have guard:(eqGuard op t x y (.agg us.toArray) (.agg vs.toArray)).run P w = .ok () w:=by
   unfold eqGuard
   rcases ho with rfl | rfl <;> simp [program,Sem.run,hg]
  rcases ho with rfl | rfl
  ·have e:binOp .eql t (.agg us.toArray) (.agg vs.toArray) = (do pure (.bool (← Op.equal t (.agg us.toArray) (.agg vs.toArray)))):=rfl
   rw [Sem.run_bind,guard,Result.andThen_ok,e,Sem.run_bind,key]; rfl
  ·have e:binOp .neq t (.agg us.toArray) (.agg vs.toArray) = (do pure (.bool (!(← Op.equal t (.agg us.toArray) (.agg vs.toArray))))):=rfl
   rw [Sem.run_bind,guard,Result.andThen_ok,e,Sem.run_bind,key]; rfl
end
mutual
def pl:MV → Option Value
 | .val v => some v
 | .ptr _ _ => none
 | .sl _ _ _ _ => none
 | .gs _ _ _ _ => none
 | .fn f x y => match pls x,pls y with
  | some a,some b => some (.func (.func f) a.toArray b.toArray)
  | _,_ => none
 | .agg l => match pls l with
  | some a => some (.agg a.toArray)
  | none => none
 | .tup l => match pls l with
  | some a => some (.tuple a.toArray)
  | none => none
 | .pe _ _ _ _ => none
 | .va _ _ _ _ => none
 | .xs _ _ => none
 | .es => none
 | .any => none
 | .gv _ _ _ => none
 | .ext _ => none
 | .junk => none
def pls:List MV → Option (List Value)
 | [] => some []
 | x :: l => match pl x,pls l with
  | some u,some us => some (u :: us)
  | _,_ => none
end
mutual
theorem pl_ok {σ:Sg}:∀ (x:MV) (u:Value),pl x = some u → ∀ v,RV σ x v ↔ v = u
 | .val v,u,h => by simp only [pl,Option.some.injEq] at h; subst h; intro v; simp only [RV]
 | .ptr b o,u,h => by simp [pl] at h
 | .sl b o n c,u,h => by simp [pl] at h
 | .gs b o n c,u,h => by simp [pl] at h
 | .fn f x y,u,h => by
  simp only [pl] at h
  split at h
  ·rename_i a b ha hb
   injection h with h; subst h
   intro v
   simp only [RV]
   constructor
   ·rintro ⟨xs,ys,h1,h2,rfl⟩
    rw [(pls_ok x a ha xs).1 h1,(pls_ok y b hb ys).1 h2]
   ·rintro rfl
    exact ⟨a,b,(pls_ok x a ha a).2 rfl,(pls_ok y b hb b).2 rfl,rfl⟩
  ·simp at h
 | .agg l,u,h => by
  simp only [pl] at h
  split at h
  ·rename_i a ha
   injection h with h; subst h
   intro v
   simp only [RV]
   constructor
   ·rintro ⟨xs,h1,rfl⟩
    rw [(pls_ok l a ha xs).1 h1]
   ·rintro rfl
    exact ⟨a,(pls_ok l a ha a).2 rfl,rfl⟩
  ·simp at h
 | .tup l,u,h => by
  simp only [pl] at h
  split at h
  ·rename_i a ha
   injection h with h; subst h
   intro v
   simp only [RV]
   constructor
   ·rintro ⟨xs,h1,rfl⟩
    rw [(pls_ok l a ha xs).1 h1]
   ·rintro rfl
    exact ⟨a,(pls_ok l a ha a).2 rfl,rfl⟩
  ·simp at h
 | .pe b s i o,u,h => by simp [pl] at h
 | .va b i n s,u,h => by simp [pl] at h
 | .xs x n,u,h => by simp [pl] at h
 | .es,u,h => by simp [pl] at h
 | .any,u,h => by simp [pl] at h
 | .gv _ _ _,u,h => by simp [pl] at h
 | .ext _,u,h => by simp [pl] at h
 | .junk,u,h => by simp [pl] at h
theorem pls_ok {σ:Sg}:∀ (l:List MV) (us:List Value),pls l = some us → ∀ vs,RVs σ l vs ↔ vs = us
 | [],us,h => by simp only [pls,Option.some.injEq] at h; subst h; intro vs; simp only [RVs]
 | x :: l,us,h => by
  simp only [pls] at h
  split at h
  ·rename_i u r hu hr
   injection h with h; subst h
   intro vs
   simp only [RVs]
   constructor
   ·rintro ⟨u',r',rfl,h1,h2⟩
    rw [(pl_ok x u hu u').1 h1,(pls_ok l r hr r').1 h2]
   ·rintro rfl
    exact ⟨u,r,rfl,(pl_ok x u hu u).2 rfl,(pls_ok l r hr r).2 rfl⟩
  ·simp at h
end
abbrev toQ (F:List MV → Option MV):List MV → (Nat → Option Blk) → KV → Option Out:=fun args _ k => match F args with
 | some v => k v
 | none => none
abbrev fin:KM:=fun v _ => some (v,[])
theorem Q_of {P:Program} {X:Bs → World → (Nat → Value) → Prop} {f:Nat} {F:List MV → Option MV} (h:∀ args v,F args = some v → ∃ us u,pls args = some us ∧ pl v = some u ∧ ∀ w,Calls P f us.toArray w (fun e w' => e = .returned u ∧ Below w.heap.size w w')):QOk P X f (toQ F):=by
 intro args rd k r hG
 unfold toQ at hG
 split at hG
 ·rename_i v hv
  obtain ⟨us,u,h1,h2,h3⟩:=h args v hv
  refine ⟨v,hG,fun base w0 σ us' w _ _ _ hu _ => ?_⟩
  rw [(pls_ok args us h1 us').1 hu]
  refine Calls.mono (h3 w) ?_
  rintro e w' ⟨rfl,hb⟩
  exact ⟨u,rfl,(pl_ok v u h2 u).2 rfl,hb⟩
 ·simp at hG
theorem call_of {P:Program} {E:Eqs} {C:Ctx} (hE:EqOk P E) (hC:COk P C) (hN:∀ b w x,C.env b w x) (hm:P.follows .mixedOrders = true) {n f:Nat} {args:List MV} {us:List Value} {v:MV} {u:Value}
  (h1:pls args = some us) (h2:pl v = some u) (h:xfun P E C n f args [] fin = some (v,[])) (w:World):Calls P f us.toArray w (fun e w' => e = .returned u ∧ Below w.heap.size w w') :=
 top_ok hE hC hN hm h (fun σ => (pls_ok args us h1 us).2 rfl) (fun σ u' hu => (pl_ok (σ:=σ) v u h2 u').1 hu) w
theorem Q_of_x {P:Program} {X:Bs → World → (Nat → Value) → Prop} {E:Eqs} {C:Ctx} (hE:EqOk P E) (hC:COk P C) (hN:∀ b w x,C.env b w x) (hm:P.follows .mixedOrders = true) {n f:Nat} {F:List MV → Option MV}
  (h:∀ args v,F args = some v → (∃ us,pls args = some us) ∧ (∃ u,pl v = some u) ∧ xfun P E C n f args [] fin = some (v,[])):QOk P X f (toQ F):=by
 refine Q_of (fun args v hv => ?_)
 obtain ⟨⟨us,h1⟩,⟨u,h2⟩,h3⟩:=h args v hv
 exact ⟨us,u,h1,h2,fun w => call_of hE hC hN hm h1 h2 h3 w⟩
def C0:Ctx:=⟨fun _ => none,fun _ => none,fun _ => none,fun _ _ _ => True⟩
theorem C0_ok (P:Program):COk P C0:=⟨by intro f G h; simp [C0] at h,by intro f G h; simp [C0] at h,by intro f G h; simp [C0] at h⟩
def addQ (C:Ctx) (f:Nat) (F:List MV → Option MV):Ctx:=⟨fun g => match g == f with | true => some (toQ F) | false => C.q g,C.i,C.n,C.env⟩
theorem addQ_ok {P:Program} {C:Ctx} (hC:COk P C) {f:Nat} {F:List MV → Option MV} (h:QOk P C.env f (toQ F)) (hf:FnOk P f):COk P (addQ C f F):=by
 refine ⟨fun g G hg => ?_,hC.n,hC.i⟩
 simp only [addQ] at hg
 split at hg
 ·rename_i e
  have e':g = f:=by simpa using e
  subst e'
  injection hg with hg; subst hg
  exact ⟨h,hf⟩
 ·exact hC.q g G hg
def addI (C:Ctx) (f:Nat) (G:List MV → Mem → KM → Option Out):Ctx:=⟨C.q,fun g => match g == f with | true => some G | false => C.i g,C.n,C.env⟩
theorem addI_ok {P:Program} {C:Ctx} (hC:COk P C) {f:Nat} {G:List MV → Mem → KM → Option Out} (h:IOk P C.env f G) (hf:FnOk P f):COk P (addI C f G):=by
 refine ⟨hC.q,hC.n,fun g H hg => ?_⟩
 simp only [addI] at hg
 split at hg
 ·rename_i e
  have e':g = f:=by simpa using e
  subst e'
  injection hg with hg; subst hg
  exact ⟨h,hf⟩
 ·exact hC.i g H hg
def addR (C:Ctx) (f:Nat) (G:List MV → (Nat → Option Blk) → KV → Option Out):Ctx:=⟨fun g => match g == f with | true => some G | false => C.q g,C.i,C.n,C.env⟩
theorem addR_ok {P:Program} {C:Ctx} (hC:COk P C) {f:Nat} {G:List MV → (Nat → Option Blk) → KV → Option Out} (h:QOk P C.env f G) (hf:FnOk P f):COk P (addR C f G):=by
 refine ⟨fun g H hg => ?_,hC.n,hC.i⟩
 simp only [addR] at hg
 split at hg
 ·rename_i e
  have e':g = f:=by simpa using e
  subst e'
  injection hg with hg; subst hg
  exact ⟨h,hf⟩
 ·exact hC.q g H hg
def addN (C:Ctx) (f:Nat) (G:List MV → (Nat → Option Blk) → (Blk → (Nat → MV) → Option Out) → Option Out):Ctx:=⟨C.q,C.i,fun g => match g == f with | true => some G | false => C.n g,C.env⟩
theorem addN_ok {P:Program} {C:Ctx} (hC:COk P C) {f:Nat} {G:List MV → (Nat → Option Blk) → (Blk → (Nat → MV) → Option Out) → Option Out} (h:NOk P C.env f G) (hf:FnOk P f):COk P (addN C f G):=by
 refine ⟨hC.q,fun g H hg => ?_,hC.i⟩
 simp only [addN] at hg
 split at hg
 ·rename_i e
  have e':g = f:=by simpa using e
  subst e'
  injection hg with hg; subst hg
  exact ⟨h,hf⟩
 ·exact hC.n g H hg
abbrev inlG (P:Program) (E:Eqs) (C:Ctx) (n f:Nat):List MV → Mem → KM → Option Out:=fun args m k => xfun P E C n f args m k
theorem fnOk_of {P : Program} {f : Nat} {fn : Func} (h : P.funcs[f]? = some fn) (h1 : (fn.name == "runtime.NumGoroutine") = false) (h2 : fn.body.isNone = false) : FnOk P f := ⟨fn, h, h1, h2⟩
end Go.Proofs.Ytppklhfiajjhmaa.Y
end
section
namespace Go.Proofs.Ytppklhfiajjhmaa.Y
open Go Go.RowKit
set_option linter.unusedVariables false
set_option linter.unusedSimpArgs false
abbrev Env:=Bs → World → (Nat → Value) → Prop
def XR (P:Program) (X:Env) (c:Code) (tm:List MV) (m:Mem) (S:XE → List MV → Mem → Prop):Prop :=
 ∀ base w0 σ a w (Q:Exit → Act → World → Prop),X base w0 σ.x → Rel base w0 σ tm m a w →
  (∀ e tm' m' σ' a' w',S e tm' m' → Ext σ σ' → Rel base w0 σ' tm' m' a' w' → Q e.out a' w') → c.wp P Q a w
def XF (P:Program) (X:Env) (f:Nat) (args:List MV) (m:Mem) (S:MV → Mem → Prop):Prop :=
 ∀ base w0 σ us w,X base w0 σ.x → RVs σ args us → RM base w0 σ m w →
  Calls P f us.toArray w fun e w' => ∃ v m' σ' u,S v m' ∧ e = .returned u ∧ Ext σ σ' ∧ RV σ' v u ∧ RM base w0 σ' m' w'
section
variable {P:Program} {E:Eqs} {C:Ctx} {X:Env}
theorem XR.of_x (hE:EqOk P E) (hC:COk P C) (hm:P.follows .mixedOrders = true) {n:Nat} {c:Code} {tm tm':List MV} {m m':Mem} {e:XE} {S:XE → List MV → Mem → Prop}
  (h:∀ k:KE,xcode P E C n c tm m k = k e tm' m') (hS:S e tm' m'):XR P C.env c tm m S:=by
 intro base w0 σ a w Q hX hR hK
 refine xcode_ok hE hC hm (n:=n) c (k:=fun e1 t1 m1 => open Classical in if e1 = e ∧ t1 = tm' ∧ m1 = m' then some (.val undef,[]) else none) (r:=(.val undef,[])) (by rw [h]; simp) hX hR ?_
 intro e1 t1 m1 σ' a' w' h1 h2 h3
 split at h1
 ·rename_i hh
  obtain ⟨rfl,rfl,rfl⟩:=hh
  exact hK _ _ _ _ _ _ hS h2 h3
 ·cases h1
theorem XR.mono {c:Code} {tm:List MV} {m:Mem} {S T:XE → List MV → Mem → Prop} (h:XR P X c tm m S) (hST:∀ e t m,S e t m → T e t m):XR P X c tm m T :=
 fun base w0 σ a w Q hX hR hK => h base w0 σ a w Q hX hR (fun e t m σ' a' w' hs => hK e t m σ' a' w' (hST e t m hs))
theorem XR.trim {c:Code} {tm:List MV} {m:Mem} {n:Nat} {S:XE → List MV → Mem → Prop} (h:XR P X c tm m S):XR P X c tm (m ++ List.replicate n none) S:=by
 intro base w0 σ a w Q hX hR hK
 have key:∀ (b:Nat) (k:Blk),(m ++ List.replicate n none:Mem)[b]? = some (some k) ↔ m[b]? = some (some k):=by
  intro b k
  rcases Nat.lt_or_ge b m.length with hl | hl
  ·rw [List.getElem?_append_left hl]
  ·rw [List.getElem?_append_right hl]
   have:m[b]? = none:=by simp; omega
   rw [this]
   simp [List.getElem?_replicate]
 have hm:=hR.mem
 refine h base w0 σ a w Q hX ⟨hR.df,hR.tm,⟨fun b k g hb hg => hm.blk b k g ((key b k).2 hb) hg,fun b c g k l h1 h2 r1 r2 h3 h4 h5 h6 => hm.inj b c g k l ((key b k).2 h1) ((key c l).2 h2) r1 r2 h3 h4 h5 h6,fun b g hg => ?_,fun b g k hk hg hr => hm.lo b g k ((key b k).2 hk) hg hr,fun b g k hk hg hr => hm.hi b g k ((key b k).2 hk) hg hr,hm.bel,hm.base⟩⟩ hK
 obtain ⟨k,hk⟩:=hm.dom b g hg
 exact ⟨k,(key b k).1 hk⟩
theorem XR.seq {a b:Code} {tm:List MV} {m:Mem} {S:XE → List MV → Mem → Prop}
  (h:XR P X a tm m (fun e tm m => match e with
   | .normal => XR P X b tm m S
   | .exit id => S (.exit id) tm m
   | .ret => S .ret tm m)):XR P X (.seq a b) tm m S:=by
 intro base w0 σ ac w Q hX hR hK
 refine wp_seq (h base w0 σ ac w _ hX hR ?_)
 intro e tm' m' σ' a' w' h1 h2 h3
 cases e with
 | normal => exact h1 base w0 σ' a' w' Q (by rw [h2.x]; exact hX) h3 (fun e t m υ a'' w'' g1 g2 g3 => hK e t m υ a'' w'' g1 (h2.trans g2) g3)
 | exit id => exact hK (.exit id) _ _ σ' a' w' h1 h2 h3
 | ret => exact hK .ret _ _ σ' a' w' h1 h2 h3
theorem XR.block {id:Nat} {c:Code} {tm:List MV} {m:Mem} {S:XE → List MV → Mem → Prop}
  (h:XR P X c tm m (fun e tm m => match e with
   | .normal => S .normal tm m
   | .exit i => if i = id then S .normal tm m else S (.exit i) tm m
   | .ret => S .ret tm m)):XR P X (.block id c) tm m S:=by
 intro base w0 σ ac w Q hX hR hK
 refine wp_block (h base w0 σ ac w _ hX hR ?_)
 intro e tm' m' σ' a' w' h1 h2 h3
 cases e with
 | normal => exact hK .normal _ _ σ' a' w' h1 h2 h3
 | exit i =>
  simp only [XE.out,Exit.inBlock]
  simp only at h1
  split at h1
  ·rename_i hi
   rw [if_pos hi]
   exact hK .normal _ _ σ' a' w' h1 h2 h3
  ·rename_i hi
   rw [if_neg hi]
   exact hK (.exit i) _ _ σ' a' w' h1 h2 h3
 | ret => exact hK .ret _ _ σ' a' w' h1 h2 h3
theorem XR.loop (Inv:Nat → List MV → Mem → Prop) {c:Code} {S:XE → List MV → Mem → Prop}
  (hb:∀ j tm m,Inv j tm m → XR P X c tm m (fun e tm' m' => match e with
   | .normal => ∃ j',j' < j ∧ Inv j' tm' m'
   | .exit id => S (.exit id) tm' m'
   | .ret => S .ret tm' m')) {j:Nat} {tm:List MV} {m:Mem} (h:Inv j tm m):XR P X (.loop c) tm m S:=by
 intro base w0 σ a w Q hX hR hK b kk cs
 have key:∀ j tm m σ' a w,Inv j tm m → Ext σ σ' → Rel base w0 σ' tm m a w →
   ∃ e a' w',Q e a' w' ∧ Arrives P (lone (b.at a (.code c :: .inLoop c :: kk)) cs w) b kk cs e a' w':=by
  intro j
  induction j using Nat.strongRecOn with
  | _ j ihj =>
   intro tm m σ' a w hI hx hR
   have hw:=hb j tm m hI base w0 σ' a w (fun e a' w' => match e with
    | .normal => ∃ j' tm' m' σ'',j' < j ∧ Inv j' tm' m' ∧ Ext σ σ'' ∧ Rel base w0 σ'' tm' m' a' w'
    | e => Q e a' w') (by rw [hx.x]; exact hX) hR (by
     intro e tm' m' σ'' a' w' h1 h2 h3
     cases e with
     | normal => obtain ⟨j',g1,g2⟩:=h1; exact ⟨j',tm',m',σ'',g1,g2,hx.trans h2,h3⟩
     | exit id => exact hK (.exit id) tm' m' σ'' a' w' h1 (hx.trans h2) h3
     | ret => exact hK .ret tm' m' σ'' a' w' h1 (hx.trans h2) h3)
   obtain ⟨e,a₁,w₁,hq,harr⟩:=hw b (.inLoop c :: kk) cs
   cases e with
   | normal =>
    obtain ⟨j',tm',m',σ'',g0,g1,g2,g3⟩:=hq
    obtain ⟨e₂,a₂,w₂,hq₂,harr₂⟩:=ihj j' g0 tm' m' σ'' a₁ w₁ g1 g2 g3
    exact ⟨e₂,a₂,w₂,hq₂,.of_steps (Steps.trans harr (.one step_inLoop)) harr₂⟩
   | exit id => exact ⟨_,a₁,w₁,hq,.pass (x:=.inLoop c) rfl (fun _ _ => .inl (by simp)) harr⟩
   | goto l => exact ⟨_,a₁,w₁,hq,.pass (x:=.inLoop c) rfl (fun _ _ => .inl (by simp)) harr⟩
   | ret => exact ⟨_,a₁,w₁,hq,.pass (x:=.inLoop c) rfl (fun _ _ => .inl (by simp)) harr⟩
   | panic ch => exact ⟨_,a₁,w₁,hq,.pass (x:=.inLoop c) rfl (fun _ _ => .inl (by simp)) harr⟩
   | outgrown => exact ⟨_,a₁,w₁,hq,.pass (x:=.inLoop c) rfl (fun _ _ => .inl (by simp)) harr⟩
 obtain ⟨e,a',w',hq,harr⟩:=key j tm m σ a w h (Ext.refl σ) hR
 exact ⟨e,a',w',hq,.of_steps (.one step_loop) harr⟩
theorem XF.of_code {f:Nat} {fn:Func} {c:Code} (hf:P.funcs[f]? = some fn) (hb:fn.body = some c) {args:List MV} {m:Mem} {S:MV → Mem → Prop}
  (h:XR P X c (args ++ List.replicate (fn.ntmps - args.length) (.val undef)) m (fun e tm' m' => match e with
   | .exit _ => False
   | _ => ∃ vs,xres P tm' m' fn.results.toList = some vs ∧ S (xpack vs) m')):XF P X f args m S:=by
 intro base w0 σ us w hX hu hM
 have hl:=hu.length
 refine calls_of_wp hf hb (h base w0 σ _ w _ hX ⟨rfl,?_,hM⟩ ?_)
 ·have e:(us.toArray ++ Array.replicate (fn.ntmps - us.toArray.size) undef).toList = us ++ List.replicate (fn.ntmps - args.length) undef:=by simp [hl]
  rw [e]
  refine hu.append ?_
  have:=RVs.vals (σ:=σ) (List.replicate (fn.ntmps - args.length) undef)
  simpa using this
 ·intro e tm' m' σ' a' w' h1 h2 h3
  cases e with
  | exit id => exact h1.elim
  | normal =>
   obtain ⟨vs,hv,hs⟩:=h1
   obtain ⟨u,g1,g2⟩:=results_ok h3 hv
   exact ⟨h3.df,u,g1,_,m',σ',u,hs,rfl,h2,g2,h3.mem⟩
  | ret =>
   obtain ⟨vs,hv,hs⟩:=h1
   obtain ⟨u,g1,g2⟩:=results_ok h3 hv
   exact ⟨h3.df,u,g1,_,m',σ',u,hs,rfl,h2,g2,h3.mem⟩
theorem XF.of_x (hE:EqOk P E) (hC:COk P C) (hm:P.follows .mixedOrders = true) {n f:Nat} {args:List MV} {m m':Mem} {v:MV} {S:MV → Mem → Prop}
  (h:∀ k:KM,xfun P E C n f args m k = k v m') (hS:S v m'):XF P C.env f args m S:=by
 intro base w0 σ us w hX hu hM
 refine Calls.mono (xfun_ok hE hC hm (n:=n) (k:=fun v1 m1 => open Classical in if v1 = v ∧ m1 = m' then some (.val undef,[]) else none) (r:=(.val undef,[])) (by rw [h]; simp) hX hu hM) ?_
 rintro e w' ⟨v1,m1,σ',u,h1,h2,h3,h4,h5⟩
 split at h1
 ·rename_i hh
  obtain ⟨rfl,rfl⟩:=hh
  exact ⟨_,_,σ',u,hS,h2,h3,h4,h5⟩
 ·cases h1
end
end Go.Proofs.Ytppklhfiajjhmaa.Y
end
section
namespace Go.Proofs.Ytppklhfiajjhmaa.Y
open Go Go.RowKit
set_option linter.unusedVariables false
set_option linter.unusedSimpArgs false
mutual
def ren (r:Nat → Nat):MV → MV
 | .val v => .val v
 | .ptr b o => .ptr (r b) o
 | .sl b o n c => .sl (r b) o n c
 | .gs b o n s => .gs (r b) o n s
 | .fn f x y => .fn f (renL r x) (renL r y)
 | .agg l => .agg (renL r l)
 | .tup l => .tup (renL r l)
 | .pe b s i o => .pe (r b) s i o
 | .va b i n s => .va (r b) i n s
 | .xs x n => .xs x n
 | .es => .es
 | .any => .any
 | .gv b n s => .gv (r b) n s
 | .ext i => .ext i
 | .junk => .junk
def renL (r:Nat → Nat):List MV → List MV
 | [] => []
 | x :: l => ren r x :: renL r l
end
theorem renL_nil {r:Nat → Nat} {l:List MV}:renL r l = [] ↔ l = []:=by cases l <;> simp [renL]
mutual
theorem ren_ok {σ τ:Sg} {r:Nat → Nat} (hx:τ.x = σ.x) (h:∀ i g,σ i = some g → τ (r i) = some g ∧ τ.κ (r i) = σ.κ i ∧ τ.off (r i) = σ.off i):∀ (x:MV) (u:Value),RV σ x u → RV τ (ren r x) u
 | .val v,u,e => by simp only [RV,ren] at e ⊢; exact e
 | .ptr b o,u,e => by simp only [RV,ren] at e ⊢; obtain ⟨g,e1,e2⟩:=e; exact ⟨g,(h _ _ e1).1,by rw [(h _ _ e1).2.2]; exact e2⟩
 | .sl b o n c,u,e => by simp only [RV,ren] at e ⊢; obtain ⟨g,e1,e2⟩:=e; exact ⟨g,(h _ _ e1).1,by rw [(h _ _ e1).2.2]; exact e2⟩
 | .gs b o n s,u,e => by simp only [RV,ren] at e ⊢; obtain ⟨g,c,e1,e2,e3,e4⟩:=e; exact ⟨g,c,(h _ _ e1).1,by rw [(h _ _ e1).2.2]; exact e2,e3,by rw [(h _ _ e1).2.1,e4]⟩
 | .fn f x y,u,e => by
  simp only [RV,ren] at e ⊢; obtain ⟨xs,ys,e1,e2,e3⟩:=e
  exact ⟨xs,ys,renL_ok hx h x xs e1,renL_ok hx h y ys e2,e3⟩
 | .agg l,u,e => by simp only [RV,ren] at e ⊢; obtain ⟨xs,e1,e2⟩:=e; exact ⟨xs,renL_ok hx h l xs e1,e2⟩
 | .tup l,u,e => by simp only [RV,ren] at e ⊢; obtain ⟨xs,e1,e2⟩:=e; exact ⟨xs,renL_ok hx h l xs e1,e2⟩
 | .pe b s i o,u,e => by simp only [RV,ren] at e ⊢; obtain ⟨g,e1,e2⟩:=e; exact ⟨g,(h _ _ e1).1,by rw [(h _ _ e1).2.2]; exact e2⟩
 | .va b i n s,u,e => by
  simp only [RV,ren] at e ⊢; obtain ⟨A,c,e1,e2,e3⟩:=e
  exact ⟨A,c,e1,e2,fun hn => by obtain ⟨g,f1,f2⟩:=e3 hn; exact ⟨g,(h _ _ f1).1,by rw [(h _ _ f1).2.2]; exact f2⟩⟩
 | .xs x n,u,e => by simp only [RV,ren] at e ⊢; rw [hx]; exact e
 | .es,u,e => by simp only [RV,ren] at e ⊢; exact e
 | .any,u,e => by simp only [RV,ren] at e ⊢; exact e
 | .gv b n s,u,e => by
  simp only [RV,ren] at e ⊢; obtain ⟨A,c,e1,e2,e0,e3⟩:=e
  exact ⟨A,c,e1,e2,e0,fun hn => by obtain ⟨g,f1,f2,f3⟩:=e3 hn; exact ⟨g,(h _ _ f1).1,by rw [(h _ _ f1).2.2]; exact f2,by rw [(h _ _ f1).2.1]; exact f3⟩⟩
 | .ext i,u,e => by simp only [RV,ren] at e ⊢; rw [hx]; exact e
 | .junk,u,e => by simp only [RV,ren]
theorem renL_ok {σ τ:Sg} {r:Nat → Nat} (hx:τ.x = σ.x) (h:∀ i g,σ i = some g → τ (r i) = some g ∧ τ.κ (r i) = σ.κ i ∧ τ.off (r i) = σ.off i):∀ (l:List MV) (us:List Value),RVs σ l us → RVs τ (renL r l) us
 | [],us,e => by simp only [RVs,renL] at e ⊢; exact e
 | x :: l,us,e => by
  simp only [RVs,renL] at e ⊢; obtain ⟨u,q,e1,e2,e3⟩:=e
  exact ⟨u,q,e1,ren_ok hx h x u e2,renL_ok hx h l q e3⟩
end
mutual
theorem ren_inv {σ τ:Sg} {r:Nat → Nat} (hx:τ.x = σ.x) (h:∀ i g,τ (r i) = some g → σ i = some g ∧ τ.κ (r i) = σ.κ i ∧ τ.off (r i) = σ.off i):∀ (x:MV) (u:Value),RV τ (ren r x) u → RV σ x u
 | .val v,u,e => by simp only [RV,ren] at e ⊢; exact e
 | .ptr b o,u,e => by simp only [RV,ren] at e ⊢; obtain ⟨g,e1,e2⟩:=e; exact ⟨g,(h _ _ e1).1,by rw [← (h _ _ e1).2.2]; exact e2⟩
 | .sl b o n c,u,e => by simp only [RV,ren] at e ⊢; obtain ⟨g,e1,e2⟩:=e; exact ⟨g,(h _ _ e1).1,by rw [← (h _ _ e1).2.2]; exact e2⟩
 | .gs b o n s,u,e => by simp only [RV,ren] at e ⊢; obtain ⟨g,c,e1,e2,e3,e4⟩:=e; exact ⟨g,c,(h _ _ e1).1,by rw [← (h _ _ e1).2.2]; exact e2,e3,by rw [← (h _ _ e1).2.1,e4]⟩
 | .fn f x y,u,e => by
  simp only [RV,ren] at e ⊢; obtain ⟨xs,ys,e1,e2,e3⟩:=e
  exact ⟨xs,ys,renL_inv hx h x xs e1,renL_inv hx h y ys e2,e3⟩
 | .agg l,u,e => by simp only [RV,ren] at e ⊢; obtain ⟨xs,e1,e2⟩:=e; exact ⟨xs,renL_inv hx h l xs e1,e2⟩
 | .tup l,u,e => by simp only [RV,ren] at e ⊢; obtain ⟨xs,e1,e2⟩:=e; exact ⟨xs,renL_inv hx h l xs e1,e2⟩
 | .pe b s i o,u,e => by simp only [RV,ren] at e ⊢; obtain ⟨g,e1,e2⟩:=e; exact ⟨g,(h _ _ e1).1,by rw [← (h _ _ e1).2.2]; exact e2⟩
 | .va b i n s,u,e => by
  simp only [RV,ren] at e ⊢; obtain ⟨A,c,e1,e2,e3⟩:=e
  exact ⟨A,c,e1,e2,fun hn => by obtain ⟨g,f1,f2⟩:=e3 hn; exact ⟨g,(h _ _ f1).1,by rw [← (h _ _ f1).2.2]; exact f2⟩⟩
 | .xs x n,u,e => by simp only [RV,ren] at e ⊢; rw [← hx]; exact e
 | .es,u,e => by simp only [RV,ren] at e ⊢; exact e
 | .any,u,e => by simp only [RV,ren] at e ⊢; exact e
 | .gv b n s,u,e => by
  simp only [RV,ren] at e ⊢; obtain ⟨A,c,e1,e2,e0,e3⟩:=e
  exact ⟨A,c,e1,e2,e0,fun hn => by obtain ⟨g,f1,f2,f3⟩:=e3 hn; exact ⟨g,(h _ _ f1).1,by rw [← (h _ _ f1).2.2]; exact f2,by rw [← (h _ _ f1).2.1]; exact f3⟩⟩
 | .ext i,u,e => by simp only [RV,ren] at e ⊢; rw [← hx]; exact e
 | .junk,u,e => by simp only [RV]
theorem renL_inv {σ τ:Sg} {r:Nat → Nat} (hx:τ.x = σ.x) (h:∀ i g,τ (r i) = some g → σ i = some g ∧ τ.κ (r i) = σ.κ i ∧ τ.off (r i) = σ.off i):∀ (l:List MV) (us:List Value),RVs τ (renL r l) us → RVs σ l us
 | [],us,e => by simp only [RVs,renL] at e ⊢; exact e
 | x :: l,us,e => by
  simp only [RVs,renL] at e ⊢; obtain ⟨u,q,e1,e2,e3⟩:=e
  exact ⟨u,q,e1,ren_inv hx h x u e2,renL_inv hx h l q e3⟩
end
def wk:MV → MV
 | .val (.slice none 0 0) => .es
 | x => x
theorem wk_ok {σ:Sg} {x:MV} {u:Value} (h:RV σ x u):RV σ (wk x) u:=by
 unfold wk
 split
 ·have e:=h
  simp only [RV] at e ⊢
  subst e
  exact ⟨none,0,rfl⟩
 ·exact h
theorem wkL_ok {σ:Sg}:∀ {l:List MV} {us:List Value},RVs σ l us → RVs σ (l.map wk) us
 | [],us,e => by simp only [RVs,List.map_nil] at e ⊢; exact e
 | x :: l,us,e => by
  simp only [RVs,List.map_cons] at e ⊢
  obtain ⟨u,r,e1,e2,e3⟩:=e
  exact ⟨u,r,e1,wk_ok e2,wkL_ok e3⟩
def rmap (rs:List Nat) (len:Nat) (i:Nat):Nat:=match rs[i]? with
 | some j => j
 | none => len + (i - rs.length)
def renB (r:Nat → Nat) (k:Blk):Blk:=match k.row with
 | .lst l => ⟨.lst (renL r l),k.ty⟩
 | .rlst l => ⟨.lst (renL r l),k.ty⟩
 | .recs sh l => ⟨.recs sh l,k.ty⟩
 | .rrecs sh l => ⟨.recs sh l,k.ty⟩
theorem renL_id (r:Nat → Nat):∀ (l:List MV),(∀ x ∈ l,ren r x = x) → renL r l = l
 | [],_ => rfl
 | x :: l,h => by rw [renL,h x List.mem_cons_self,renL_id r l (fun y hy => h y (List.mem_cons_of_mem _ hy))]
theorem ren_recC (r:Nat → Nat):∀ (sh:List (Option IntKind)) (c:Nat) (q:List Int) (x:MV),x ∈ recC sh c q → ren r x = x
 | [],c,q,x,h => by simp [recC] at h
 | some k :: sh,c,q,x,h => by
  simp only [recC,List.mem_cons] at h
  rcases h with rfl | h
  ·rfl
  ·exact ren_recC r sh _ q x h
 | none :: sh,c,q,x,h => by
  simp only [recC,List.mem_cons] at h
  rcases h with rfl | h
  ·rfl
  ·exact ren_recC r sh _ q x h
theorem renL_recs (r:Nat → Nat) (sh:List (Option IntKind)) (l:List (List Int)):renL r (l.flatMap (recC sh 0)) = l.flatMap (recC sh 0):=by
 apply renL_id
 intro x hx
 rw [List.mem_flatMap] at hx
 obtain ⟨q,_,hq⟩:=hx
 exact ren_recC r sh 0 q x hq
theorem renB_cells (r:Nat → Nat) (k:Blk):(renB r k).cells = renL r k.cells ∧ (renB r k).ty = k.ty ∧ (renB r k).ro = false:=by
 obtain ⟨row,ty⟩:=k
 cases row with
 | lst l => exact ⟨rfl,rfl,rfl⟩
 | rlst l => exact ⟨rfl,rfl,rfl⟩
 | recs sh l => exact ⟨(renL_recs r sh l).symm,rfl,rfl⟩
 | rrecs sh l => exact ⟨(renL_recs r sh l).symm,rfl,rfl⟩
def upd (r:Nat → Nat):List Nat → Mem → Mem → Mem → Mem
 | b :: rs,some k0 :: m0,some k1 :: m1,m => upd r rs m0 m1 (bif k0.ro then m else m.set b (some (renB r k1)))
 | _,_,_,m => m
def frameM (rs:List Nat) (m0 m1 m:Mem):Mem:=upd (rmap rs m.length) rs m0 m1 m ++ (m1.drop rs.length).map (fun x => match x with | some k => some (renB (rmap rs m.length) k) | none => none)
theorem upd_len (r:Nat → Nat):∀ (rs:List Nat) (m0 m1 m:Mem),(upd r rs m0 m1 m).length = m.length
 | b :: rs,some k0 :: m0,some k1 :: m1,m => by
  rw [upd,upd_len r rs]
  cases k0.ro <;> simp
 | [],_,_,m => by simp [upd]
 | _ :: _,[],_,m => by simp [upd]
 | _ :: _,none :: _,_,m => by simp [upd]
 | _ :: _,some _ :: _,[],m => by simp [upd]
 | _ :: _,some _ :: _,none :: _,m => by simp [upd]
theorem upd_not (r:Nat → Nat) {c:Nat}:∀ (rs:List Nat) (m0 m1 m:Mem),(∀ (i:Nat) (k0:Blk),rs[i]? = some c → m0[i]? = some (some k0) → k0.ro = true) → (upd r rs m0 m1 m)[c]? = m[c]?
 | b :: rs,some k0 :: m0,some k1 :: m1,m,h => by
  rw [upd,upd_not r rs m0 m1 _ (fun i k h1 h2 => h (i + 1) k (by simpa using h1) (by simpa using h2))]
  cases hro:k0.ro with
  | true => rfl
  | false =>
   simp only [cond_false]
   rw [List.getElem?_set_ne]
   intro e
   subst e
   have:=h 0 k0 (by simp) (by simp)
   rw [hro] at this
   cases this
 | [],_,_,m,h => by simp [upd]
 | _ :: _,[],_,m,h => by simp [upd]
 | _ :: _,none :: _,_,m,h => by simp [upd]
 | _ :: _,some _ :: _,[],m,h => by simp [upd]
 | _ :: _,some _ :: _,none :: _,m,h => by simp [upd]
theorem upd_hit (r:Nat → Nat) {b:Nat} {k0 k1:Blk}:∀ (rs:List Nat) (m0 m1 m:Mem) (i:Nat),rs.Nodup → (∀ j,j < rs.length → ∃ k:Blk,m0[j]? = some (some k)) → (∀ j,j < rs.length → ∃ k:Blk,m1[j]? = some (some k)) →
  rs[i]? = some b → m0[i]? = some (some k0) → k0.ro = false → m1[i]? = some (some k1) → b < m.length → (upd r rs m0 m1 m)[b]? = some (some (renB r k1))
 | [],m0,m1,m,i,_,_,_,h,_,_,_,_ => by simp at h
 | b' :: rs,m0,m1,m,i,hnd,ha,hb,h1,h2,h3,h4,h5 => by
  obtain ⟨x0,hx0⟩:=ha 0 (by simp)
  obtain ⟨x1,hx1⟩:=hb 0 (by simp)
  cases m0 with
  | nil => simp at hx0
  | cons y0 m0 =>
   cases m1 with
   | nil => simp at hx1
   | cons y1 m1 =>
    simp only [List.getElem?_cons_zero,Option.some.injEq] at hx0 hx1
    subst hx0; subst hx1
    obtain ⟨hn1,hn2⟩:=List.nodup_cons.1 hnd
    rw [upd]
    cases i with
    | zero =>
     simp only [List.getElem?_cons_zero,Option.some.injEq] at h1 h2 h4
     subst h1; subst h2; subst h4
     rw [upd_not r rs m0 m1 _ (fun i k g1 _ => absurd (List.mem_of_getElem? g1) hn1),h3]
     simp [h5]
    | succ i =>
     simp only [List.getElem?_cons_succ] at h1 h2 h4
     exact upd_hit r rs m0 m1 _ i hn2 (fun j hj => by have:=ha (j + 1) (by simp; omega); simpa using this) (fun j hj => by have:=hb (j + 1) (by simp; omega); simpa using this) h1 h2 h3 h4 (by cases x0.ro <;> simpa using h5)
def Stable (X:Env):Prop:=∀ B w0 B' w x,X B w0 x → Bel B w0 w → (∀ g,Own B' g → Own B g) → B'.n = w.heap.size → X B' w x
theorem nodup_at {rs:List Nat} (h:rs.Nodup) {i j b:Nat} (h1:rs[i]? = some b) (h2:rs[j]? = some b):i = j:=by
 have h3:i < rs.length:=(List.getElem?_eq_some_iff.1 h1).1
 exact (List.getElem?_inj h3 h).1 (h1.trans h2.symm)
def XFz (P:Program) (X:Env) (Z:Nat → Bool) (f:Nat) (args:List MV) (m:Mem) (v1:MV) (m1:Mem):Prop :=
 ∀ base w0 σ us w,X base w0 σ.x → RVs σ args us → RM base w0 σ m w →
  Calls P f us.toArray w fun e w' => ∃ σ' u,e = .returned u ∧ Ext σ σ' ∧ RV σ' v1 u ∧ RM base w0 σ' m1 w' ∧ ∀ i,Z i = true → σ i = none → σ' i = none
theorem frameZ {P:Program} {X:Env} (hS:Stable X) {f:Nat} {args0 args:List MV} {m0 m1 m:Mem} {v1:MV} {Z:Nat → Bool} (hf:XFz P X Z f args0 m0 v1 m1) {base:Bs} {w0:World} {σ:Sg} {us:List Value} {w:World}
  {rs:List Nat} (hnd:rs.Nodup) (hlen:∀ (i:Nat) (k0:Blk),m0[i]? = some (some k0) → i < rs.length) (hargs:RVs σ args us → RVs σ (renL (rmap rs m.length) args0) us)
  (hblk:∀ (i b:Nat),rs[i]? = some b → ∃ kb k0:Blk,m[b]? = some (some kb) ∧ m0[i]? = some (some k0) ∧ kb.ty = k0.ty ∧ kb.cells.map wk = renL (rmap rs m.length) k0.cells ∧ (k0.ro = false → kb.ro = false ∧ k0.cells ≠ []))
  (hres:∀ (i:Nat) (k0:Blk),m0[i]? = some (some k0) → ∃ k1:Blk,m1[i]? = some (some k1) ∧ k1.ty = k0.ty ∧ k1.ro = k0.ro ∧ k1.cells.length = k0.cells.length)
  (hnew:∀ (i:Nat) (k1:Blk),rs.length ≤ i → m1[i]? = some (some k1) → k1.ro = false)
  (hX:X base w0 σ.x) (hu:RVs σ args us) (hM:RM base w0 σ m w) (hmap:∀ i b:Nat,rs[i]? = some b → Z i = true ∨ ∃ g,σ b = some g) :
  Calls P f us.toArray w fun e w' => ∃ v m' σ' u,(v = ren (rmap rs m.length) v1 ∧ m' = frameM rs m0 m1 m) ∧ e = .returned u ∧ Ext σ σ' ∧ RV σ' v u ∧ RM base w0 σ' m' w':=by
 obtain ⟨r,hr⟩:∃ r,r = rmap rs m.length:=⟨_,rfl⟩
 obtain ⟨k,hk⟩:∃ k,k = rs.length:=⟨_,rfl⟩
 rw [← hr] at hargs hblk
 have r_lt:∀ (i b:Nat),rs[i]? = some b → r i = b:=by intro i b h; rw [hr]; unfold rmap; rw [h]
 have r_ge:∀ i,k ≤ i → r i = m.length + (i - k):=by
  intro i h
  have:rs[i]? = none:=by simp; omega
  rw [hr]; unfold rmap; rw [this,← hk]
 have at_lt:∀ i,i < k → ∃ b,rs[i]? = some b:=fun i h => ⟨rs[i]'(by omega),List.getElem?_eq_getElem (by omega)⟩
 have lt_at:∀ (i b:Nat),rs[i]? = some b → i < k:=fun i b h => by have:=(List.getElem?_eq_some_iff.1 h).1; omega
 let σ0:Sg:=⟨fun i => (rs[i]?).bind σ.f,fun i => σ.κ (r i),σ.x,fun i => σ.off (r i)⟩
 have s0:∀ (i b:Nat),rs[i]? = some b → σ0 i = σ b:=by intro i b h; show (rs[i]?).bind σ.f = _; rw [h]; rfl
 have s0_inv:∀ i g,σ0 i = some g → ∃ b,rs[i]? = some b ∧ σ b = some g:=by
  intro i g h
  have h':(rs[i]?).bind σ.f = some g:=h
  obtain ⟨b,h1,h2⟩:=Option.bind_eq_some_iff.1 h'
  exact ⟨b,h1,h2⟩
 let B':Bs:=⟨w.heap.size,fun g => ∃ (i:Nat) (k0:Blk),m0[i]? = some (some k0) ∧ k0.ro = false ∧ σ0 i = some g⟩
 -- what is lent
 have lent:∀ (i:Nat) (k0:Blk) (g:Nat),m0[i]? = some (some k0) → k0.ro = false → σ0 i = some g → ∃ (b:Nat) (kb:Blk),rs[i]? = some b ∧ m[b]? = some (some kb) ∧ kb.ro = false ∧ kb.cells ≠ [] ∧ kb.ty = k0.ty ∧ σ b = some g:=by
  intro i k0 g h1 h2 h3
  obtain ⟨b,h4,h5⟩:=s0_inv i g h3
  obtain ⟨kb,k0',g1,g2,g3,g4,g5⟩:=hblk i b h4
  rw [h1] at g2
  simp only [Option.some.injEq] at g2
  subst g2
  obtain ⟨g6,g7⟩:=g5 h2
  exact ⟨b,kb,h4,g1,g6,by intro e; rw [e] at g4; exact g7 (renL_nil.1 g4.symm),g3,h5⟩
 have own:∀ g,Own B' g → Own base g:=by
  rintro g (h | ⟨i,k0,h1,h2,h3⟩)
  ·exact .inl (Nat.le_trans hM.base h)
  ·obtain ⟨b,kb,g1,g2,g3,g4,g5,g6⟩:=lent i k0 g h1 h2 h3
   exact hM.lo b g kb g2 g6 g3
 have inv0:∀ i g,σ (r i) = some g → σ0 i = some g ∧ σ.κ (r i) = σ0.κ i ∧ σ.off (r i) = σ0.off i:=by
  intro i g h
  rcases Nat.lt_or_ge i k with hi | hi
  ·obtain ⟨b,hb⟩:=at_lt i hi
   refine ⟨?_,rfl,rfl⟩
   rw [s0 i b hb,← r_lt i b hb]; exact h
  ·rw [r_ge i hi] at h
   obtain ⟨kx,hx⟩:=hM.dom _ _ h
   have:=(List.getElem?_eq_some_iff.1 hx).1
   omega
 have hM0:RM B' w σ0 m0 w:=by
  refine ⟨fun i k0 g h hg => ?_,fun i j g ki kj hi hj r1 r2 n1 n2 h1 h2 => ?_,fun i g hg => ?_,fun i g k0 h hg hr => .inr ⟨i,k0,h,hr,hg⟩,fun i g k0 h hg hro hne => ?_,Bel.refl _ _,Nat.le_refl _⟩
  ·obtain ⟨b,hb,hgb⟩:=s0_inv i g hg
   obtain ⟨kb,k0',g1,g2,g3,g4,g5⟩:=hblk i b hb
   rw [h] at g2
   simp only [Option.some.injEq] at g2
   subst g2
   obtain ⟨pre,cs,rest,a1,a2,a3,a4,a5⟩:=hM.blk b kb g g1 hgb
   refine ⟨pre,cs,rest,a1.as (fun hr0 => ⟨(g5 hr0).1,g3.symm⟩),?_,?_,by rw [a4]; show _ = σ.off (r i); rw [r_lt i b hb],fun hr0 => a5 (g5 hr0).1⟩
   ·have a6:=wkL_ok a2
    rw [g4] at a6
    exact renL_inv (τ:=σ) (σ:=σ0) (r:=r) rfl (fun i g h => inv0 i g h) _ _ a6
   ·rw [a3]; show _ = σ.κ (r i); rw [r_lt i b hb]
  ·obtain ⟨bi,kbi,a1,a2,a3,a4,a5,a6⟩:=lent i ki g hi r1 h1
   obtain ⟨bj,kbj,c1,c2,c3,c4,c5,c6⟩:=lent j kj g hj r2 h2
   have:=hM.inj bi bj g kbi kbj a2 c2 a3 c3 a4 c4 a6 c6
   subst this
   exact nodup_at hnd a1 c1
  ·obtain ⟨b,hb,_⟩:=s0_inv i g hg
   obtain ⟨kb,k0,_,g2,_⟩:=hblk i b hb
   exact ⟨k0,g2⟩
  ·obtain ⟨b,hb,hgb⟩:=s0_inv i g hg
   obtain ⟨kb,k0',g1,g2,g3,g4,g5⟩:=hblk i b hb
   rw [h] at g2
   simp only [Option.some.injEq] at g2
   subst g2
   have hne':kb.cells ≠ []:=by intro e; rw [e] at g4; exact hne (renL_nil.1 g4.symm)
   rintro (hh | ⟨j,kj,c1,c2,c3⟩)
   ·have:=hM.lt hgb
    exact absurd hh (Nat.not_le.2 this)
   ·obtain ⟨bj,kbj,d1,d2,d3,d4,d5,d6⟩:=lent j kj g c1 c2 c3
    cases hkb:kb.ro with
    | true => exact hM.hi b g kb g1 hgb hkb hne' (hM.lo bj g kbj d2 d6 d3)
    | false =>
     have:=hM.inj b bj g kb kbj g1 d2 hkb d3 hne' d4 hgb d6
     subst this
     have:=nodup_at hnd hb d1
     subst this
     rw [h] at c1
     simp only [Option.some.injEq] at c1
     subst c1
     rw [hro] at c2
     cases c2
 have hu0:RVs σ0 args0 us:=renL_inv (τ:=σ) (σ:=σ0) (r:=r) rfl (fun i g h => inv0 i g h) _ _ (hargs hu)
 refine Calls.mono (hf B' w σ0 us w (hS base w0 B' w σ.x hX hM.bel own rfl) hu0 hM0) ?_
 rintro e w' ⟨σ1,u,rfl,hx01,hv,hM1,hzz⟩
 have s1:∀ (i b:Nat),rs[i]? = some b → σ1 i = σ b:=by
  intro i b hb
  cases hg:σ b with
  | some g => exact (hx01.to i g (by rw [s0 i b hb]; exact hg)).1
  | none =>
   rcases hmap i b hb with hz | ⟨g,hg'⟩
   ·exact hzz i hz (by rw [s0 i b hb]; exact hg)
   ·rw [hg] at hg'; cases hg'
 have s2:∀ (i b g:Nat),rs[i]? = some b → σ b = some g → σ1.κ i = σ.κ b ∧ σ1.off i = σ.off b:=by
  intro i b g hb hg
  obtain ⟨a1,a2⟩:=hx01.to i g (by rw [s0 i b hb]; exact hg)
  refine ⟨?_,?_⟩
  ·rw [a2.1]; show σ.κ (r i) = _; rw [r_lt i b hb]
  ·rw [a2.2]; show σ.off (r i) = _; rw [r_lt i b hb]
 have b_lt:∀ (i b:Nat),rs[i]? = some b → b < m.length:=by
  intro i b hb
  obtain ⟨kb,k0,g1,_⟩:=hblk i b hb
  exact (List.getElem?_eq_some_iff.1 g1).1
 let σ':Sg:=⟨fun c => if c < m.length then σ c else σ1 (k + (c - m.length)),fun c => if c < m.length then σ.κ c else σ1.κ (k + (c - m.length)),σ.x,fun c => if c < m.length then σ.off c else σ1.off (k + (c - m.length))⟩
 have sl:∀ c,c < m.length → σ' c = σ c ∧ σ'.κ c = σ.κ c ∧ σ'.off c = σ.off c:=fun c h => ⟨if_pos h,if_pos h,if_pos h⟩
 have sg:∀ c,m.length ≤ c → σ' c = σ1 (k + (c - m.length)) ∧ σ'.κ c = σ1.κ (k + (c - m.length)) ∧ σ'.off c = σ1.off (k + (c - m.length)):=fun c h => ⟨if_neg (by omega),if_neg (by omega),if_neg (by omega)⟩
 have to1:∀ i g,σ1 i = some g → σ' (r i) = some g ∧ σ'.κ (r i) = σ1.κ i ∧ σ'.off (r i) = σ1.off i:=by
  intro i g h
  rcases Nat.lt_or_ge i k with hi | hi
  ·obtain ⟨b,hb⟩:=at_lt i hi
   have a1:=s1 i b hb
   have a2:=s2 i b g hb (by rw [← a1]; exact h)
   obtain ⟨c1,c2⟩:=sl b (b_lt i b hb)
   rw [r_lt i b hb,c1,c2.1,c2.2,← a1,a2.1,a2.2]
   exact ⟨h,rfl,rfl⟩
  ·obtain ⟨c1,c2⟩:=sg (r i) (by rw [r_ge i hi]; omega)
   have e:k + (r i - m.length) = i:=by rw [r_ge i hi]; omega
   rw [c1,c2.1,c2.2,e]
   exact ⟨h,rfl,rfl⟩
 have hX':Ext σ σ':=by
  refine ⟨rfl,fun b g hb => ?_⟩
  obtain ⟨kx,hx⟩:=hM.dom b g hb
  obtain ⟨c1,c2⟩:=sl b (List.getElem?_eq_some_iff.1 hx).1
  exact ⟨c1.trans hb,c2⟩
 have hx1:σ'.x = σ1.x:=by rw [hx01.x]
 have all0:∀ j,j < rs.length → ∃ kx,m0[j]? = some (some kx):=by
  intro j hj
  obtain ⟨b,hb⟩:=at_lt j (by omega)
  obtain ⟨kb,k0,_,g2,_⟩:=hblk j b hb
  exact ⟨k0,g2⟩
 have all1:∀ j,j < rs.length → ∃ kx,m1[j]? = some (some kx):=by
  intro j hj
  obtain ⟨k0,h0⟩:=all0 j hj
  obtain ⟨k1,h1,_⟩:=hres j k0 h0
  exact ⟨k1,h1⟩
 have ulen:=upd_len r rs m0 m1 m
 -- what stands in the memory behind the call
 have get:∀ (c:Nat) (kk:Blk),(frameM rs m0 m1 m)[c]? = some (some kk) →
   (∃ (i:Nat) (k1:Blk),m1[i]? = some (some k1) ∧ r i = c ∧ kk = renB r k1 ∧ k1.ro = false ∧ (i < k → ∃ k0:Blk,m0[i]? = some (some k0) ∧ k0.ro = false)) ∨
   (c < m.length ∧ m[c]? = some (some kk) ∧ ∀ (i:Nat) (k0:Blk),rs[i]? = some c → m0[i]? = some (some k0) → k0.ro = true):=by
  intro c kk hc
  unfold frameM at hc
  rw [← hr] at hc
  rcases Nat.lt_or_ge c m.length with hl | hl
  ·rw [List.getElem?_append_left (by omega)] at hc
   by_cases hh:∀ (i:Nat) (k0:Blk),rs[i]? = some c → m0[i]? = some (some k0) → k0.ro = true
   ·rw [upd_not r rs m0 m1 m hh] at hc
    exact .inr ⟨hl,hc,hh⟩
   ·obtain ⟨i,hi⟩:=Classical.not_forall.1 hh
    obtain ⟨k0,hi⟩:=Classical.not_forall.1 hi
    obtain ⟨h1,hi⟩:=Classical.not_imp.1 hi
    obtain ⟨h2,h3⟩:=Classical.not_imp.1 hi
    have h3':k0.ro = false:=by simpa using h3
    obtain ⟨k1,h4,h5,h6,h7⟩:=hres i k0 h2
    rw [upd_hit r rs m0 m1 m i hnd all0 all1 h1 h2 h3' h4 hl] at hc
    simp only [Option.some.injEq] at hc
    exact .inl ⟨i,k1,h4,r_lt i c h1,hc.symm,by rw [h6,h3'],fun _ => ⟨k0,h2,h3'⟩⟩
  ·rw [List.getElem?_append_right (by omega),ulen,List.getElem?_map,List.getElem?_drop] at hc
   obtain ⟨x,hx1,hx2⟩:=Option.map_eq_some_iff.1 hc
   cases x with
   | none => cases hx2
   | some k1 =>
    simp only [Option.some.injEq] at hx2
    have hi:rs.length ≤ rs.length + (c - m.length):=by omega
    exact .inl ⟨rs.length + (c - m.length),k1,hx1,by rw [r_ge _ (by omega)]; omega,hx2.symm,hnew _ _ hi hx1,fun h => by omega⟩
 -- and the other way
 have put:∀ (i:Nat) (k1:Blk),m1[i]? = some (some k1) → (i < k → ∃ k0:Blk,m0[i]? = some (some k0) ∧ k0.ro = false) → (frameM rs m0 m1 m)[r i]? = some (some (renB r k1)):=by
  intro i k1 h1 h2
  unfold frameM
  rw [← hr]
  rcases Nat.lt_or_ge i k with hi | hi
  ·obtain ⟨b,hb⟩:=at_lt i hi
   obtain ⟨k0,h3,h4⟩:=h2 hi
   have hl:=b_lt i b hb
   rw [r_lt i b hb,List.getElem?_append_left (by omega)]
   exact upd_hit r rs m0 m1 m i hnd all0 all1 hb h3 h4 h1 hl
  ·rw [r_ge i hi,List.getElem?_append_right (by omega),ulen,List.getElem?_map,List.getElem?_drop]
   rw [show rs.length + (m.length + (i - k) - m.length) = i by omega,h1]
   rfl
 have keep:∀ c,c < m.length → (∀ (i:Nat) (k0:Blk),rs[i]? = some c → m0[i]? = some (some k0) → k0.ro = true) → (frameM rs m0 m1 m)[c]? = m[c]?:=by
  intro c hl hh
  unfold frameM
  rw [← hr,List.getElem?_append_left (by omega)]
  exact upd_not r rs m0 m1 m hh
 refine ⟨_,_,σ',u,⟨rfl,rfl⟩,rfl,hX',by rw [← hr]; exact ren_ok hx1 to1 v1 u hv,?_⟩
 -- where a block of the small memory lies
 have img:∀ (i c g:Nat) (k1:Blk),m1[i]? = some (some k1) → r i = c → σ' c = some g → (i < k → ∃ k0:Blk,m0[i]? = some (some k0) ∧ k0.ro = false) → σ1 i = some g ∧ σ'.κ c = σ1.κ i ∧ σ'.off c = σ1.off i:=by
  intro i c g k1 h1 h2 h3 _
  rcases Nat.lt_or_ge i k with hi | hi
  ·obtain ⟨b,hb⟩:=at_lt i hi
   have e:=r_lt i b hb
   rw [h2] at e
   subst e
   have a1:=s1 i c hb
   obtain ⟨c1,c2⟩:=sl c (b_lt i c hb)
   have a2:=s2 i c g hb (by rw [← c1]; exact h3)
   rw [a1,a2.1,a2.2,c2.1,c2.2,← c1]
   exact ⟨h3,rfl,rfl⟩
  ·have e:=r_ge i hi
   rw [h2] at e
   obtain ⟨c1,c2⟩:=sg c (by omega)
   rw [show k + (c - m.length) = i by omega] at c1 c2
   rw [← c1,c2.1,c2.2]
   exact ⟨h3,rfl,rfl⟩
 -- a place that was lent,seen from a block that was not
 have other:∀ (c:Nat) (kk:Blk) (g:Nat),c < m.length → m[c]? = some (some kk) → (∀ (i:Nat) (k0:Blk),rs[i]? = some c → m0[i]? = some (some k0) → k0.ro = true) → σ c = some g → kk.cells ≠ [] → ¬ Own B' g:=by
  intro c kk g hl h1 h2 h3 hne
  rintro (hh | ⟨j,kj,c1,c2,c3⟩)
  ·have:=hM.lt h3
   exact absurd hh (Nat.not_le.2 this)
  ·obtain ⟨bj,kbj,d1,d2,d3,d4,d5,d6⟩:=lent j kj g c1 c2 c3
   cases hkb:kk.ro with
   | true => exact hM.hi c g kk h1 h3 hkb hne (hM.lo bj g kbj d2 d6 d3)
   | false =>
    have:=hM.inj c bj g kk kbj h1 d2 hkb d3 hne d4 h3 d6
    subst this
    have:=h2 j kj d1 c1
    rw [c2] at this
    cases this
 refine ⟨fun c kk g hc hg => ?_,fun c d g kc kd hc hd r1 r2 n1 n2 g1 g2 => ?_,fun c g hg => ?_,fun c g kk hc hg hro => ?_,fun c g kk hc hg hro hne => ?_,?_,?_⟩
 ·rcases get c kk hc with ⟨i,k1,a1,a2,a3,a4,a5⟩ | ⟨hl,a1,a2⟩
  ·obtain ⟨b1,b2⟩:=img i c g k1 a1 a2 hg a5
   obtain ⟨pre,cs,rest,d1,d2,d3,d4,d5⟩:=hM1.blk i k1 g a1 b1
   obtain ⟨e1,e2,_⟩:=renB_cells r k1
   subst a3
   refine ⟨pre,cs,rest,d1.as (fun _ => ⟨a4,e2⟩),by rw [e1]; exact renL_ok hx1 to1 _ _ d2,by rw [d3,b2.1],by rw [d4,b2.2],fun _ => d5 a4⟩
  ·obtain ⟨c1,c2⟩:=sl c hl
   rw [c1] at hg
   obtain ⟨pre,cs,rest,d1,d2,d3,d4,d5⟩:=hM.blk c kk g a1 hg
   by_cases hO:Own B' g
   ·have hne:kk.cells = []:=Classical.byContradiction fun hne => other c kk g hl a1 a2 hg hne hO
    rcases hO with hh | ⟨j,kj,e1,e2,e3⟩
    ·have:=hM.lt hg
     exact absurd hh (Nat.not_le.2 this)
    ·obtain ⟨bj,kbj,f1,f2,f3,f4,f5,f6⟩:=lent j kj g e1 e2 e3
     obtain ⟨k1,h1,h2,h3,h4⟩:=hres j kj e1
     obtain ⟨_,csb,restb,p1,p2,p3⟩:=hM.own f2 f3 f6
     have s11:=s1 j bj f1
     obtain ⟨s12,s13⟩:=s2 j bj g f1 f6
     obtain ⟨_,cs1,rest1,q1,q2,q3⟩:=hM1.own h1 (by rw [h3,e2]) (by rw [s11]; exact f6)
     obtain ⟨tyd,frd,d1,d1b⟩:=d1
     rw [p1] at d1
     simp only [Option.some.injEq,Obj.cells.injEq,and_true] at d1
     obtain ⟨t1,t2,rfl⟩:=d1
     have t3:csb ++ restb = pre ++ (cs ++ rest):=by have:=congrArg Array.toList t1; simpa using this
     have hL:(cs1 ++ rest1).length = pre.length + (cs ++ rest).length:=by rw [q3,s12,← p3,t3]; simp
     refine ⟨(cs1 ++ rest1).take pre.length,[],(cs1 ++ rest1).drop pre.length,?_,by rw [hne]; simp [RVs],?_,?_,?_⟩
     ·exact ⟨tyd,(0,0),by rw [q1,List.nil_append,List.take_append_drop,h2,← f5,t2],d1b⟩
     ·rw [List.nil_append,List.length_drop,hL,c2.1,← d3]; omega
     ·rw [List.length_take,hL,c2.2,← d4]; omega
     ·intro hr0; rw [d5 hr0]; rfl
   ·exact ⟨pre,cs,rest,d1.step (hM1.bel.block g hO),RVs.ext hX' _ _ d2,by rw [d3,c2.1],by rw [d4,c2.2],d5⟩
 ·rcases get c kc hc with ⟨i,k1,a1,a2,a3,a4,a5⟩ | ⟨hl,a1,a2⟩
  ·obtain ⟨b1,_⟩:=img i c g k1 a1 a2 g1 a5
   have nn:k1.cells ≠ []:=by intro e; apply n1; rw [a3,(renB_cells r k1).1,e]; rfl
   rcases get d kd hd with ⟨j,k2,d1,d2,d3,d4,d5⟩ | ⟨hl2,d1,d2⟩
   ·obtain ⟨e1,_⟩:=img j d g k2 d1 d2 g2 d5
    have nn2:k2.cells ≠ []:=by intro e; apply n2; rw [d3,(renB_cells r k2).1,e]; rfl
    have:=hM1.inj i j g k1 k2 a1 d1 a4 d4 nn nn2 b1 e1
    rw [← a2,← d2,this]
   ·rw [(sl d hl2).1] at g2
    exact absurd (hM1.lo i g k1 a1 b1 a4) (other d kd g hl2 d1 d2 g2 n2)
  ·rw [(sl c hl).1] at g1
   rcases get d kd hd with ⟨j,k2,d1,d2,d3,d4,d5⟩ | ⟨hl2,d1,d2⟩
   ·obtain ⟨e1,_⟩:=img j d g k2 d1 d2 g2 d5
    exact absurd (hM1.lo j g k2 d1 e1 d4) (other c kc g hl a1 a2 g1 n1)
   ·rw [(sl d hl2).1] at g2
    exact hM.inj c d g kc kd a1 d1 r1 r2 n1 n2 g1 g2
 ·rcases Nat.lt_or_ge c m.length with hl | hl
  ·rw [(sl c hl).1] at hg
   obtain ⟨kk,hk⟩:=hM.dom c g hg
   by_cases hh:∀ (i:Nat) (k0:Blk),rs[i]? = some c → m0[i]? = some (some k0) → k0.ro = true
   ·exact ⟨kk,by rw [keep c hl hh]; exact hk⟩
   ·obtain ⟨i,hi⟩:=Classical.not_forall.1 hh
    obtain ⟨k0,hi⟩:=Classical.not_forall.1 hi
    obtain ⟨h1,hi⟩:=Classical.not_imp.1 hi
    obtain ⟨h2,h3⟩:=Classical.not_imp.1 hi
    have h3':k0.ro = false:=by simpa using h3
    obtain ⟨k1,h4,_⟩:=hres i k0 h2
    have:=put i k1 h4 (fun _ => ⟨k0,h2,h3'⟩)
    rw [r_lt i c h1] at this
    exact ⟨_,this⟩
  ·rw [(sg c hl).1] at hg
   obtain ⟨k1,h1⟩:=hM1.dom _ g hg
   have:=put _ k1 h1 (fun h => by omega)
   rw [r_ge _ (by omega),show m.length + (k + (c - m.length) - k) = c by omega] at this
   exact ⟨_,this⟩
 ·rcases get c kk hc with ⟨i,k1,a1,a2,a3,a4,a5⟩ | ⟨hl,a1,a2⟩
  ·obtain ⟨b1,_⟩:=img i c g k1 a1 a2 hg a5
   exact own g (hM1.lo i g k1 a1 b1 a4)
  ·rw [(sl c hl).1] at hg
   exact hM.lo c g kk a1 hg hro
 ·rcases get c kk hc with ⟨i,k1,a1,a2,a3,a4,a5⟩ | ⟨hl,a1,a2⟩
  ·rw [a3,(renB_cells r k1).2.2] at hro
   cases hro
  ·rw [(sl c hl).1] at hg
   exact hM.hi c g kk a1 hg hro hne
 ·exact hM.bel.trans ⟨hM1.bel.os,hM1.bel.tape,hM1.bel.output,hM1.bel.size,fun x hx => hM1.bel.block x (fun h => hx (own x h))⟩
 ·exact Nat.le_trans hM.base hM1.bel.size
end Go.Proofs.Ytppklhfiajjhmaa.Y
end
