/- What is proved: texts of the law TilesShow, joined by program. Conditions: none but those in each statement. -/
import Derived.Test.YtppklhfiajjhmaaZTilesShow3
import Derived.Test.YtppklhfiajjhmaaZTilesShow19
section
namespace Go.Proofs.Ytppklhfiajjhmaa.Y
open Go Go.RowKit Go.Proofs.Ytppklhfiajjhmaa.Reads Go.ChangeShapes Go.WideShapes Go.Deep
set_option linter.unusedVariables false
set_option linter.unusedSimpArgs false
def InAt (w:World) (A:Option Addr) (us:List Value):Prop:=∀ j u,us[j]? = some u → ∃ a,A = some a ∧ w.cell? (a.add j) = some u
theorem InAt.blk {w:World} {A:Option Addr} {us:List Value} (h:InAt w A us) (hne:us ≠ []) :
  ∃ g off pre rest ty fr,A = some ⟨g,off,none⟩ ∧ w.heap[g]? = some (.cells (pre ++ (us ++ rest)).toArray ty fr) ∧ pre.length = off:=by
 obtain ⟨u0,us',rfl⟩:=List.exists_cons_of_ne_nil hne
 obtain ⟨a,rfl,h0⟩:=h 0 u0 rfl
 obtain ⟨g,off,spot⟩:=a
 have hs:spot = none:=by
  have h1:(⟨g,off,spot⟩:Addr).add 0 = ⟨g,off,spot⟩:=rfl
  rw [h1] at h0
  unfold World.cell? at h0
  split at h0
  ·cases spot with
   | none => rfl
   | some s => simp at h0
  ·cases h0
 subst hs
 have hh:∃ c ty fr,w.heap[g]? = some (.cells c ty fr):=by
  unfold World.cell? at h0
  split at h0
  ·rename_i c ty fr hc
   exact ⟨c,ty,fr,by simpa [Addr.add] using hc⟩
  ·cases h0
 obtain ⟨c,ty,fr,hc⟩:=hh
 have hget:∀ j u,(u0 :: us')[j]? = some u → c.toList[off + j]? = some u:=by
  intro j u hj
  obtain ⟨a,ha,h1⟩:=h j u hj
  injection ha with ha; subst ha
  rw [addr_add] at h1
  simp only [World.cell?,hc,Option.isSome_none,Bool.false_eq_true,if_false] at h1
  simpa using h1
 have hlen:off + (u0 :: us').length ≤ c.toList.length:=by
  have hl:us'.length < (u0 :: us').length:=by simp
  have:=hget us'.length _ (List.getElem?_eq_getElem hl)
  have:=(List.getElem?_eq_some_iff.1 this).1
  simp only [List.length_cons]; omega
 have e:c.toList = c.toList.take off ++ ((u0 :: us') ++ c.toList.drop (off + (u0 :: us').length)):=by
  have e1:u0 :: us' = (c.toList.drop off).take (u0 :: us').length:=by
   apply List.ext_getElem?
   intro j
   by_cases hj:j < (u0 :: us').length
   ·rw [List.getElem?_take,if_pos hj,List.getElem?_drop,List.getElem?_eq_getElem hj]
    exact (hget j _ (List.getElem?_eq_getElem hj)).symm
   ·rw [List.getElem?_eq_none (by omega),List.getElem?_eq_none (by rw [List.length_take]; omega)]
  have e2:c.toList.drop (off + (u0 :: us').length) = (c.toList.drop off).drop (u0 :: us').length:=by rw [List.drop_drop]
  rw [e2]
  conv => rhs; rhs; lhs; rw [e1]
  rw [List.take_append_drop,List.take_append_drop]
 refine ⟨g,off,c.toList.take off,c.toList.drop (off + (u0 :: us').length),ty,fr,rfl,?_,by rw [List.length_take]; omega⟩
 rw [← e,hc]
structure InB where
 A:Option Addr
 k:Blk
 us:List Value
def fOf:Option InB → Option Nat
 | some e => if e.us = [] then none else e.A.map (·.block)
 | none => none
def oOf:Option InB → Nat
 | some ⟨some a,_,_⟩ => a.off
 | _ => 0
def kOf (w:World):Option InB → Nat
 | some ⟨some a,_,_⟩ => match w.heap[a.block]? with
  | some (.cells c _ _) => c.size - a.off
  | _ => 0
 | _ => 0
def sgOf (w:World) (x:Nat → Value) (L:List InB):Sg:=⟨fun i => fOf L[i]?,fun i => kOf w L[i]?,x,fun i => oOf L[i]?⟩
theorem oOf_eq {e:InB} {a:Addr} (h:e.A = some a):oOf (some e) = a.off:=by obtain ⟨A,k,us⟩:=e; simp only at h; subst h; rfl
theorem kOf_eq {w:World} {e:InB} {a:Addr} {c:Array Value} {ty:TypeId} {fr:Nat × Nat} (h:e.A = some a) (hh:w.heap[a.block]? = some (.cells c ty fr)):kOf w (some e) = c.size - a.off:=by obtain ⟨A,k,us⟩:=e; simp only at h; subst h; simp [kOf,hh]
theorem rm_ins {w:World} (x:Nat → Value) (L:List InB) (h:∀ (i:Nat) (e:InB),L[i]? = some e → e.k.ro = true ∧ InAt w e.A e.us ∧ RVs (sgOf w x L) e.k.cells e.us) :
  RM ⟨w.heap.size,fun _ => False⟩ w (sgOf w x L) (L.map fun e => some e.k) w:=by
 have get:∀ (i:Nat) (k:Blk),(L.map fun e => some e.k)[i]? = some (some k) → ∃ e,L[i]? = some e ∧ e.k = k:=by
  intro i k hk
  rw [List.getElem?_map] at hk
  obtain ⟨e,h1,h2⟩:=Option.map_eq_some_iff.1 hk
  exact ⟨e,h1,by injection h2⟩
 have at_:∀ (i g:Nat) (e:InB),L[i]? = some e → sgOf w x L i = some g → e.us ≠ [] ∧ ∃ off pre rest ty fr,e.A = some ⟨g,off,none⟩ ∧ w.heap[g]? = some (.cells (pre ++ (e.us ++ rest)).toArray ty fr) ∧ pre.length = off:=by
  intro i g e he hg
  have hg':fOf L[i]? = some g:=hg
  rw [he] at hg'
  simp only [fOf] at hg'
  split at hg'
  ·cases hg'
  ·rename_i hne
   obtain ⟨g',off,pre,rest,ty,fr,h1,h2,h3⟩:=(h i e he).2.1.blk hne
   rw [h1] at hg'
   simp only [Option.map_some,Option.some.injEq] at hg'
   subst hg'
   exact ⟨hne,off,pre,rest,ty,fr,h1,h2,h3⟩
 refine ⟨fun i k g hk hg => ?_,fun i j g ki kj hi hj r1 r2 n1 n2 h1 h2 => ?_,fun i g hg => ?_,fun i g k hk hg hr => ?_,fun i g k hk hg hr _ => ?_,Bel.refl _ _,Nat.le_refl _⟩
 ·obtain ⟨e,he,rfl⟩:=get i k hk
  obtain ⟨hne,off,pre,rest,ty,fr,h1,h2,h3⟩:=at_ i g e he hg
  obtain ⟨hro,_,hv⟩:=h i e he
  refine ⟨pre,e.us,rest,⟨ty,fr,h2,fun hh => by rw [hro] at hh; cases hh⟩,hv,?_,?_,fun hh => by rw [hro] at hh; cases hh⟩
  ·show _ = kOf w L[i]?
   rw [he,kOf_eq h1 h2]
   simp only [← h3]
   simp
  ·show _ = oOf L[i]?
   rw [he,oOf_eq h1]
   exact h3
 ·obtain ⟨e,he,rfl⟩:=get i ki hi
  rw [(h i e he).1] at r1; cases r1
 ·have hg':fOf L[i]? = some g:=hg
  cases he:L[i]? with
  | none => rw [he] at hg'; cases hg'
  | some e => exact ⟨e.k,by rw [List.getElem?_map,he]; rfl⟩
 ·obtain ⟨e,he,rfl⟩:=get i k hk
  rw [(h i e he).1] at hr; cases hr
 ·obtain ⟨e,he,rfl⟩:=get i k hk
  obtain ⟨hne,off,pre,rest,ty,fr,h1,h2,h3⟩:=at_ i g e he hg
  have hlt:=(Array.getElem?_eq_some_iff.1 h2).1
  rintro (hh | hh)
  ·exact absurd hlt (Nat.not_lt.2 hh)
  ·exact hh
theorem va_in {w:World} {x:Nat → Value} {L:List InB} {i n c s:Nat} {e:InB} (he:L[i]? = some e) (hin:InAt w e.A e.us) (hn:n ≤ c) (h0:0 < n → e.us ≠ []):RV (sgOf w x L) (.va i 0 n s) (.slice e.A n c):=by
 simp only [RV]
 refine ⟨e.A,c,rfl,hn,fun hp => ?_⟩
 obtain ⟨g,off,pre,rest,ty,fr,h1,h2,h3⟩:=hin.blk (h0 hp)
 refine ⟨g,?_,?_⟩
 ·show fOf L[i]? = some g
  rw [he]
  simp only [fOf]
  rw [if_neg (h0 hp),h1]
  rfl
 ·rw [h1]
  show _ = some (⟨g,oOf L[i]? + 0 * s,none⟩:Addr)
  rw [he,oOf_eq h1]
  simp
theorem fits_i64:∀ (n:Nat) (y:List Value),Fits (List.replicate n isI64) y → ∃ r:List Int,r.length = n ∧ y = recV (i64s n) 0 r ∧ ∀ v ∈ r,I64 v
 | 0,y,h => ⟨[],rfl,fits_nil h,by simp⟩
 | n + 1,y,h => by
  obtain ⟨c,r,rfl,⟨v,rfl,hv⟩,hr⟩:=fits_cons h
  obtain ⟨l,h1,rfl,h3⟩:=fits_i64 n r hr
  have key:∀ (s:Nat) (k:Nat) (l:List Int),recV (i64s s) (k + 1) (v :: l) = recV (i64s s) k l:=by
   intro s
   induction s with
   | zero => intro k l; rfl
   | succ s ih =>
    intro k l
    show Value.int .i64 ((v :: l).getD (k + 1) 0) :: recV (i64s s) (k + 1 + 1) (v :: l) = .int .i64 (l.getD k 0) :: recV (i64s s) (k + 1) l
    rw [ih]
    rfl
  refine ⟨v :: l,by simp [h1],?_,?_⟩
  ·show _ = Value.int .i64 v :: recV (i64s n) 1 (v :: l)
   rw [key]
  ·intro x hx
   rcases List.mem_cons.1 hx with rfl | hx
   ·exact hv
   ·exact h3 x hx
theorem rows_in {w:World} {A:Option Addr} {n:Nat} {ys:List (List Value)} (h:Go.Proofs.Ytppklhfiajjhmaa.Reads.Rows w A n (List.replicate n isI64) ys) (hn:0 < n) :
  ∃ it:List (List Int),it.length = ys.length ∧ InAt w A (rowsV (i64s n) it) ∧ (∀ r ∈ it,∀ v ∈ r,I64 v) ∧ ∀ r ∈ it,r.length = n:=by
 obtain ⟨h1,h2⟩:=h
 have hex:∀ y,∃ r:List Int,y ∈ ys → (r.length = n ∧ y = recV (i64s n) 0 r ∧ ∀ v ∈ r,I64 v):=by
  intro y
  by_cases hy:y ∈ ys
  ·obtain ⟨r,g1,g2,g3⟩:=fits_i64 n y (h1 y hy)
   exact ⟨r,fun _ => ⟨g1,g2,g3⟩⟩
  ·exact ⟨[],fun hc => absurd hc hy⟩
 obtain ⟨f,hf⟩:=Classical.axiomOfChoice hex
 refine ⟨ys.map f,by simp,?_,?_,?_⟩
 ·intro j u hj
  have hl:=rowsV_len (i64s n) (ys.map f)
  have hs:(i64s n).length = n:=by simp [i64s]
  rw [hs,List.length_map] at hl
  have hjl:=(List.getElem?_eq_some_iff.1 hj).1
  rw [hl] at hjl
  have hq:j / n < ys.length:=(Nat.div_lt_iff_lt_mul hn).2 hjl
  have hm:j % n < n:=Nat.mod_lt _ hn
  have hg:(ys.map f).getD (j / n) [] = f ys[j / n]:=by simp [List.getD_eq_getElem?_getD,hq]
  have hy:=hf ys[j / n] (List.getElem_mem hq)
  have hrl:j % n < (recV (i64s n) 0 ((ys.map f).getD (j / n) [])).length:=by rw [recV_len,hs]; exact hm
  have h3:=rowsV_get (l:=ys.map f) (by simpa using hq) (List.getElem?_eq_getElem hrl)
  rw [hs,Nat.div_add_mod'] at h3
  rw [hj] at h3
  simp only [Option.some.injEq] at h3
  obtain ⟨a,ha,hc⟩:=h2 (j / n) ys[j / n] (List.getElem?_eq_getElem hq)
  refine ⟨a,ha,?_⟩
  have h4:(ys[j / n])[j % n]? = some u:=by
   rw [h3,← List.getElem?_eq_getElem,hg,← hy.2.1]
  have h5:=hc (j % n) u h4
  rwa [Nat.div_add_mod'] at h5
 ·intro r hr v hv
  obtain ⟨y,hy,rfl⟩:=List.mem_map.1 hr
  exact (hf y hy).2.2 v hv
 ·intro r hr
  obtain ⟨y,hy,rfl⟩:=List.mem_map.1 hr
  exact (hf y hy).1
theorem arg_slices {H:Type} {enc:TypeId × Value → H} {P:Program} {w:World} {base:Nat} {spare:Nat → Bool} {held:Bool} {t:TypeId} {v:Value} {dd:DataW H} {ps:List MemPlace} {r:Reach} {b0:Nat} {e e1:TypeId} {qs:List (Value → Prop)}
  (ht:P.underlying t = some (.slice e)) (he:P.underlying e = some (.slice e1)) (hce:P.cellsOf e = 1) (he1:Opens P e1 qs) (hv:Value.okWide P w r b0 t v) (h:DataW.Trod enc P w base spare held t v dd ps) :
  ∃ (A:Option Addr) (c:Nat) (xs:List Value),v = .slice A xs.length c ∧ xs.length ≤ c ∧ c ≤ 9223372036854775807 ∧ InAt w A xs ∧
   ∀ x ∈ xs,∃ (A':Option Addr) (c':Nat) (ys:List (List Value)),x = .slice A' ys.length c' ∧ ys.length ≤ c' ∧ Go.Proofs.Ytppklhfiajjhmaa.Reads.Rows w A' qs.length qs ys:=by
 obtain ⟨a,len,cap,rfl⟩:=okWide_slice ht hv
 obtain ⟨fuel,hf⟩:=h
 rcases open_slice ht hf with ⟨h0,_⟩ | ⟨a,len',cap',m,n,D,Pl,h0,_,hl,hm,hmm,_,hi⟩
 ·simp only [Value.cells,Array.toList] at h0
  simp only [List.cons.injEq,Value.slice.injEq,and_true] at h0
  obtain ⟨rfl,rfl,rfl⟩:=h0
  exact ⟨none,0,[],rfl,Nat.le_refl _,by omega,by intro j u hj; simp at hj,by simp⟩
 simp only [Value.cells,Array.toList] at h0
 simp only [List.cons.injEq,Value.slice.injEq,and_true] at h0
 obtain ⟨rfl,rfl,rfl⟩:=h0
 have hlm:len ≤ m:=by rw [hmm]; split <;> omega
 obtain ⟨xs,hlen,hxs⟩:=list_of (α:=Value) (p:=fun i c => w.cell? (a.add i) = some c ∧ ∃ (A':Option Addr) (c':Nat) (ys:List (List Value)),c = .slice A' ys.length c' ∧ ys.length ≤ c' ∧ Go.Proofs.Ytppklhfiajjhmaa.Reads.Rows w A' qs.length qs ys) len (fun i hil => by
  obtain ⟨cs',h1,h2⟩:=hi i (by omega)
  obtain ⟨_,hcl,hat⟩:=World.cells?_some h1
  rw [hce] at hcl hat
  rcases open_slice he h2 with ⟨h0,_⟩ | ⟨a',len',cap'',m',n',D',Pl',h0,_,hl',hm',hmm',_,hi'⟩
  ·subst h0
   have h3:=hat 0 (by omega)
   rw [Nat.mul_one] at h3
   exact ⟨_,h3,none,0,[],rfl,Nat.le_refl _,by simp,fun i x hx => by simp at hx⟩
  ·subst h0
   have h3:=hat 0 (by omega)
   rw [Nat.mul_one] at h3
   have hlm':len' ≤ m':=by rw [hmm']; split <;> omega
   obtain ⟨ys,hylen,hys⟩:=list_of (α:=List Value) (p:=fun i c => Fits qs c ∧ ∀ j u,c[j]? = some u → w.cell? (a'.add (i * qs.length + j)) = some u) len' (fun i hil => by
    obtain ⟨cs',h1,h2⟩:=hi' i (by omega)
    have hy:=he1.2 H enc w base spare held n' cs' _ h2
    obtain ⟨_,hcl,hat⟩:=World.cells?_some h1
    rw [he1.1] at hcl hat
    refine ⟨cs',hy,fun j u hj => ?_⟩
    have hjl:j < cs'.length:=(List.getElem?_eq_some_iff.1 hj).1
    have h3:=hat j (by omega)
    rw [Go.Deep.add_add] at h3
    exact h3.trans hj)
   subst hylen
   refine ⟨_,h3,some a',cap'',ys,rfl,hl',⟨fun x hx => ?_,fun i x hx => ⟨a',rfl,(hys i x hx).2⟩⟩⟩
   obtain ⟨j,hj,rfl⟩:=List.mem_iff_getElem.1 hx
   exact (hys j _ (List.getElem?_eq_getElem hj)).1)
 subst hlen
 refine ⟨some a,cap,xs,rfl,hl,by unfold maxLen at hm; omega,fun j u hj => ⟨a,rfl,(hxs j u hj).1⟩,fun x hx => ?_⟩
 obtain ⟨j,hj,rfl⟩:=List.mem_iff_getElem.1 hx
 exact (hxs j _ (List.getElem?_eq_getElem hj)).2
end Go.Proofs.Ytppklhfiajjhmaa.Y
end
section
namespace Go.Proofs.Ytppklhfiajjhmaa.Y
open Go Go.RowKit
set_option linter.unusedVariables false
set_option linter.unusedSimpArgs false
theorem SliceAt.inAt {w:World} {u:Value} {sh:List (Option IntKind)} {l:List (List Int)} {ok:Nat → Prop} (h:SliceAt w u sh l ok) (hs:0 < sh.length):∃ A c,u = .slice A l.length c ∧ l.length ≤ c ∧ InAt w A (rowsV sh l):=by
 obtain ⟨A,c,h1,h2,h3⟩:=h
 refine ⟨A,c,h1,h2,fun j u hj => ?_⟩
 have hl:=rowsV_len sh l
 have hjl:=(List.getElem?_eq_some_iff.1 hj).1
 rw [hl] at hjl
 have hq:j / sh.length < l.length:=(Nat.div_lt_iff_lt_mul hs).2 hjl
 have hm:j % sh.length < sh.length:=Nat.mod_lt _ hs
 obtain ⟨ad,ha,_,hc⟩:=h3 (Nat.lt_of_le_of_lt (Nat.zero_le _) hq)
 have hrl:j % sh.length < (recV sh 0 (l.getD (j / sh.length) [])).length:=by rw [recV_len]; exact hm
 have h4:=rowsV_get (sh:=sh) (l:=l) hq (List.getElem?_eq_getElem hrl)
 rw [Nat.div_add_mod',hj] at h4
 injection h4 with h4
 refine ⟨ad,ha,?_⟩
 have:=hc (j / sh.length) hq (j % sh.length) _ (List.getElem?_eq_getElem hrl)
 rw [Nat.div_add_mod',← h4] at this
 exact this
def inB (A:Option Addr) (s ty:Nat) (l:List (List Int)):InB:=⟨A,⟨.rrecs (i64s s) l,ty⟩,rowsV (i64s s) l⟩
theorem inB_ok {w:World} {x:Nat → Value} {L:List InB} {A:Option Addr} {s ty:Nat} {l:List (List Int)} (h:InAt w A (rowsV (i64s s) l)):(inB A s ty l).k.ro = true ∧ InAt w (inB A s ty l).A (inB A s ty l).us ∧ RVs (sgOf w x L) (inB A s ty l).k.cells (inB A s ty l).us:=⟨rfl,h,rows_RVs _ _ _⟩
theorem inB_va {w:World} {x:Nat → Value} {L:List InB} {i s ty c:Nat} {A:Option Addr} {l:List (List Int)} (hi:L[i]? = some (inB A s ty l)) (h:InAt w A (rowsV (i64s s) l)) (hc:l.length ≤ c) (hs:0 < s):RV (sgOf w x L) (.va i 0 l.length s) (.slice A l.length c):=by
 refine va_in hi h hc (fun hp hn => ?_)
 have h1:=rowsV_len (i64s s) l
 have h2:rowsV (i64s s) l = []:=hn
 rw [h2] at h1
 simp only [List.length_nil,i64s,List.length_replicate] at h1
 have:=Nat.mul_pos hp hs
 omega
theorem N_in2 {P:Program} {X:Env} (hS:Stable X) {f:Nat} {args0:List MV} {m0:Mem} {V:MV} {sh:List (Option IntKind)} {l:List (List Int)} {ty:Nat} {L:List InB} {vf:Nat → MV} (hm0:m0 = L.map fun e => some e.k)
  (hf:XF P X f args0 m0 (fun v m' => v = V ∧ ∃ r,m' = m0 ++ (some ⟨.recs sh l,ty⟩ :: r))) {base:Bs} {w0 w:World} {σ:Sg} {us:List Value}
  (hX:X base w0 σ.x) (hb:Bel base w0 w) (hn:base.n ≤ w.heap.size)
  (hL:∀ (i:Nat) (e:InB),L[i]? = some e → e.k.ro = true ∧ InAt w e.A e.us ∧ RVs (sgOf w σ.x L) e.k.cells e.us)
  (hu:RVs (sgOf w σ.x L) args0 us)
  (hV:∀ σ1 τ b u,Ext (sgOf w σ.x L) σ1 → Ext σ τ → (∀ g,σ1 m0.length = some g → τ b = some g ∧ τ.κ b = σ1.κ m0.length ∧ τ.off b = σ1.off m0.length) → RV σ1 V u → RV τ (vf b) u) :
  Calls P f us.toArray w fun e w' => ∃ u,e = .returned u ∧ Fresh σ w w' ⟨.recs sh l,ty⟩ vf u ∧ Below w.heap.size w w':=by
 have hM:=rm_ins (w:=w) σ.x L hL
 rw [← hm0] at hM
 have hX':X ⟨w.heap.size,fun _ => False⟩ w (sgOf w σ.x L).x:=hS base w0 _ w σ.x hX hb (by rintro y (hh | hh); exact .inl (Nat.le_trans hn hh); exact hh.elim) rfl
 refine Calls.mono (hf _ w (sgOf w σ.x L) us w hX' hu hM) ?_
 rintro e w' ⟨v1,m1,σ1,u1,⟨rfl,r,rfl⟩,rfl,hext,h3,h4⟩
 refine ⟨u1,rfl,?_,h4.bel.to⟩
 have hq:(m0 ++ (some ⟨.recs sh l,ty⟩ :: r):Mem)[m0.length]? = some (some ⟨.recs sh l,ty⟩):=by rw [List.getElem?_append_right (Nat.le_refl _),Nat.sub_self]; rfl
 cases hg:σ1 m0.length with
 | none =>
  right
  intro τ b hτ
  exact hV σ1 τ b u1 hext hτ (fun g hg' => by rw [hg] at hg'; cases hg') h3
 | some g =>
  left
  obtain ⟨pre,cs,rest,d1,d2,d3,d4,d5⟩:=h4.blk _ _ g hq hg
  have hp:=d5 rfl
  subst hp
  have hlo:=h4.lo _ g _ hq hg rfl
  have hge:w.heap.size ≤ g:=by
   rcases hlo with h | h
   ·exact h
   ·exact h.elim
  have hcs:=rows_inv d2
  subst hcs
  refine ⟨g,_,rest,hge,by simpa using d1.own rfl,rows_RVs σ sh l,fun τ b hx hτ hκ ho => hV σ1 τ b u1 hext hx (fun g' hg' => ?_) h3⟩
  rw [hg] at hg'
  injection hg' with hg'; subst hg'
  refine ⟨hτ,by rw [hκ,d3],by rw [ho,← d4]; rfl⟩
theorem N_in {P:Program} {X:Env} (hS:Stable X) {f:Nat} {args0:List MV} {m0:Mem} {V:MV} {sh:List (Option IntKind)} {l:List (List Int)} {ty:Nat} {L:List InB} {vf:Nat → MV} (hm0:m0 = L.map fun e => some e.k)
  (hf:XF P X f args0 m0 (fun v m' => v = V ∧ m' = m0 ++ [some ⟨.recs sh l,ty⟩])) {base:Bs} {w0 w:World} {σ:Sg} {us:List Value}
  (hX:X base w0 σ.x) (hb:Bel base w0 w) (hn:base.n ≤ w.heap.size)
  (hL:∀ (i:Nat) (e:InB),L[i]? = some e → e.k.ro = true ∧ InAt w e.A e.us ∧ RVs (sgOf w σ.x L) e.k.cells e.us)
  (hu:RVs (sgOf w σ.x L) args0 us)
  (hV:∀ σ1 τ b u,Ext (sgOf w σ.x L) σ1 → Ext σ τ → (∀ g,σ1 m0.length = some g → τ b = some g ∧ τ.κ b = σ1.κ m0.length ∧ τ.off b = σ1.off m0.length) → RV σ1 V u → RV τ (vf b) u) :
  Calls P f us.toArray w fun e w' => ∃ u,e = .returned u ∧ Fresh σ w w' ⟨.recs sh l,ty⟩ vf u ∧ Below w.heap.size w w' :=
 N_in2 hS hm0 (fun base w0 σ us w hX hu hM => Calls.mono (hf base w0 σ us w hX hu hM) (by
  rintro e w' ⟨v,m',σ',u,⟨rfl,rfl⟩,h2,h3,h4,h5⟩
  exact ⟨_,_,σ',u,⟨rfl,[],rfl⟩,h2,h3,h4,h5⟩)) hX hb hn hL hu hV
theorem va_arg {w:World} {x:Nat → Value} {L:List InB} {σ σ1 τ:Sg} {i e s ty c:Nat} {A:Option Addr} {l:List (List Int)} {u:Value} (hi:L[i]? = some (inB A s ty l)) (hs:0 < s) (hA:RV σ (.va e 0 l.length s) (.slice A l.length c))
  (h1:Ext (sgOf w x L) σ1) (h2:Ext σ τ) (hu:RV σ1 (.va i 0 l.length s) u):RV τ (.va e 0 l.length s) u:=by
 simp only [RV] at hA hu ⊢
 obtain ⟨A',c',rfl,hc',hu⟩:=hu
 obtain ⟨A0,c0,e0,_,hA⟩:=hA
 injection e0 with e0 _ _
 subst e0
 refine ⟨A',c',rfl,hc',fun hp => ?_⟩
 obtain ⟨g1,f1,f2⟩:=hu hp
 obtain ⟨g0,f3,f4⟩:=hA hp
 have hne:rowsV (i64s s) l ≠ []:=by
  intro h
  have h1:=rowsV_len (i64s s) l
  rw [h] at h1
  simp only [List.length_nil,i64s,List.length_replicate] at h1
  have:=Nat.mul_pos hp hs
  omega
 have h3:sgOf w x L i = some g0:=by
  show fOf L[i]? = some g0
  rw [hi]
  simp only [fOf]
  rw [if_neg (show ¬ (inB A s ty l).us = [] from hne)]
  show A.map _ = _
  rw [f4]
  rfl
 have h4:(sgOf w x L).off i = σ.off e:=by
  show oOf L[i]? = _
  rw [hi,oOf_eq (e:=inB A s ty l) f4]
  simp
 obtain ⟨k1,_,k3⟩:=h1.to i g0 h3
 obtain ⟨k4,_,k6⟩:=h2.to e g0 f3
 rw [k1] at f1
 injection f1 with f1
 subst f1
 exact ⟨g0,k4,by rw [f2,k3,h4,k6]⟩
section
variable {P:Program} {E:Eqs} {C:Ctx} {X:Env} {base:Bs} {w0:World}
theorem XN.turn {n:Nat} (t:Nat) {x y:MV} {c:Code} {tm:List MV} {m:Mem} {S:XE → List MV → Mem → Prop} (ht:tm[t]? = some y) (h:∀ σ u,RV σ y u → RV σ x u) (hk:XN P X n c (tm.set t x) m S):XN P X n c tm m S :=
 XN.grow (fun base w0 σ a w hR => ⟨σ,ExtN.refl n σ,hR.df,RVs.turn t hR.tm ht (h σ),hR.mem⟩) hk
theorem RM.recast {σ:Sg} {m m2:Mem} {w:World} (h:RM base w0 σ m w) (h1:∀ (i:Nat) (k2:Blk),m2[i]? = some (some k2) → ∃ k:Blk,m[i]? = some (some k) ∧ k2.ty = k.ty ∧ k2.ro = k.ro ∧ k2.cells = k.cells)
  (h2:∀ (i:Nat) (k:Blk),m[i]? = some (some k) → ∃ k2:Blk,m2[i]? = some (some k2)):RM base w0 σ m2 w:=by
 refine ⟨fun b k g hk hg => ?_,fun b c g k l hb hc r1 r2 n1 n2 g1 g2 => ?_,fun b g hg => ?_,fun b g k hk hg hr => ?_,fun b g k hk hg hr hn => ?_,h.bel,h.base⟩
 ·obtain ⟨k0,e1,e2,e3,e4⟩:=h1 b k hk
  obtain ⟨pre,cs,rest,d1,d2,d3,d4,d5⟩:=h.blk b k0 g e1 hg
  exact ⟨pre,cs,rest,d1.as (fun hh => ⟨by rw [← e3]; exact hh,e2⟩),by rw [e4]; exact d2,d3,d4,fun hh => d5 (by rw [← e3]; exact hh)⟩
 ·obtain ⟨k0,e1,e2,e3,e4⟩:=h1 b k hb
  obtain ⟨l0,f1,f2,f3,f4⟩:=h1 c l hc
  exact h.inj b c g k0 l0 e1 f1 (by rw [← e3]; exact r1) (by rw [← f3]; exact r2) (by rw [← e4]; exact n1) (by rw [← f4]; exact n2) g1 g2
 ·obtain ⟨k,hk⟩:=h.dom b g hg
  exact h2 b k hk
 ·obtain ⟨k0,e1,e2,e3,e4⟩:=h1 b k hk
  exact h.lo b g k0 e1 hg (by rw [← e3]; exact hr)
 ·obtain ⟨k0,e1,e2,e3,e4⟩:=h1 b k hk
  exact h.hi b g k0 e1 hg (by rw [← e3]; exact hr) (by rw [← e4]; exact hn)
theorem XN.recast {n:Nat} (b:Nat) {k k2:Blk} {c:Code} {tm:List MV} {m:Mem} {S:XE → List MV → Mem → Prop} (hb:m[b]? = some (some k)) (e1:k2.ty = k.ty) (e2:k2.ro = k.ro) (e3:k2.cells = k.cells) (hk:XN P X n c tm (m.set b (some k2)) S):XN P X n c tm m S:=by
 have hlt:=(List.getElem?_eq_some_iff.1 hb).1
 refine XN.grow (fun base w0 σ a w hR => ⟨σ,ExtN.refl n σ,hR.df,hR.tm,hR.mem.recast (fun i k' hi => ?_) (fun i k' hi => ?_)⟩) hk
 ·by_cases e:i = b
  ·subst e
   rw [List.getElem?_set_self hlt] at hi
   simp only [Option.some.injEq] at hi
   subst hi
   exact ⟨k,hb,e1,e2,e3⟩
  ·rw [List.getElem?_set_ne (Ne.symm e)] at hi
   exact ⟨k',hi,rfl,rfl,rfl⟩
 ·by_cases e:i = b
  ·subst e
   exact ⟨k2,List.getElem?_set_self hlt⟩
  ·exact ⟨k',by rw [List.getElem?_set_ne (Ne.symm e)]; exact hi⟩
theorem gv_va {σ:Sg} {b n s:Nat} {u:Value} (h:RV σ (.gv b n s) u):RV σ (.va b 0 n s) u:=by
 obtain ⟨A,c,e1,e2,_,e3⟩:=h.gv_inv
 simp only [RV]
 exact ⟨A,c,e1,e2,fun hp => by obtain ⟨g,f1,f2,_⟩:=e3 (by omega); exact ⟨g,f1,by simpa using f2⟩⟩
theorem sl_va {σ:Sg} {b n c s:Nat} {u:Value} (hc:n ≤ c) (h:RV σ (.sl b 0 n c) u):RV σ (.va b 0 n s) u:=by
 simp only [RV] at h ⊢
 obtain ⟨g,e1,e2⟩:=h
 exact ⟨_,c,e2,hc,fun _ => ⟨g,e1,by simp⟩⟩
theorem nil_va {σ:Sg} {b s:Nat} {u:Value} (h:RV σ (.val (.slice none 0 0)) u):RV σ (.va b 0 0 s) u:=by
 simp only [RV] at h ⊢
 exact ⟨none,0,h,Nat.le_refl _,fun h => absurd h (Nat.lt_irrefl 0)⟩
end
end Go.Proofs.Ytppklhfiajjhmaa.Y
end
