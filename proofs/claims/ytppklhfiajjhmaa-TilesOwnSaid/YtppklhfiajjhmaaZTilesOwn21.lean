/- What is proved: texts of the law TilesOwn, joined by program. Conditions: none but those in each statement. -/
import Derived.Test.YtppklhfiajjhmaaZTilesOwn3
import Derived.Test.YtppklhfiajjhmaaZTilesOwn20
section
namespace Go.Proofs.Ytppklhfiajjhmaa.Y
open Go Go.RowKit Go.Proofs.Ytppklhfiajjhmaa.Reads Go.ChangeShapes Go.WideShapes Go.Deep
set_option linter.unusedVariables false
set_option linter.unusedSimpArgs false
def InAt (w:World) (A:Option Addr) (us:List Value):Prop:=∀ j u,us[j]? = some u → ∃ a,A = some a ∧ w.cell? (a.add j) = some u
theorem InAt.blk {w:World} {A:Option Addr} {us:List Value} (h:InAt w A us) (hne:us ≠ []) :
  ∃ g off pre rest ty fr,A = some ⟨g,off,none⟩ ∧ w.heap[g]? = some (.cells (pre ++ (us ++ rest)).toArray ty fr) ∧ pre.length = off:=by
 obtain ⟨u0,us',rfl⟩:=List.exists_cons_of_ne_nil hne
 obtain ⟨a,rfl,h0⟩:=h 0 u0 rfl
 obtain ⟨g,off,spot⟩:=a
 have hs:spot = none:=by
  have h1:(⟨g,off,spot⟩:Addr).add 0 = ⟨g,off,spot⟩:=rfl
  rw [h1] at h0
  unfold World.cell? at h0
  split at h0
  ·cases spot with
   | none => rfl
   | some s => simp at h0
  ·cases h0
 subst hs
 have hh:∃ c ty fr,w.heap[g]? = some (.cells c ty fr):=by
  unfold World.cell? at h0
  split at h0
  ·rename_i c ty fr hc
   exact ⟨c,ty,fr,by simpa [Addr.add] using hc⟩
  ·cases h0
 obtain ⟨c,ty,fr,hc⟩:=hh
 have hget:∀ j u,(u0 :: us')[j]? = some u → c.toList[off + j]? = some u:=by
  intro j u hj
  obtain ⟨a,ha,h1⟩:=h j u hj
  injection ha with ha; subst ha
  rw [addr_add] at h1
  simp only [World.cell?,hc,Option.isSome_none,Bool.false_eq_true,if_false] at h1
  simpa using h1
 have hlen:off + (u0 :: us').length ≤ c.toList.length:=by
  have hl:us'.length < (u0 :: us').length:=by simp
  have:=hget us'.length _ (List.getElem?_eq_getElem hl)
  have:=(List.getElem?_eq_some_iff.1 this).1
  simp only [List.length_cons]; omega
 have e:c.toList = c.toList.take off ++ ((u0 :: us') ++ c.toList.drop (off + (u0 :: us').length)):=by
  have e1:u0 :: us' = (c.toList.drop off).take (u0 :: us').length:=by
   apply List.ext_getElem?
   intro j
   by_cases hj:j < (u0 :: us').length
   ·rw [List.getElem?_take,if_pos hj,List.getElem?_drop,List.getElem?_eq_getElem hj]
    exact (hget j _ (List.getElem?_eq_getElem hj)).symm
   ·rw [List.getElem?_eq_none (by omega),List.getElem?_eq_none (by rw [List.length_take]; omega)]
  have e2:c.toList.drop (off + (u0 :: us').length) = (c.toList.drop off).drop (u0 :: us').length:=by rw [List.drop_drop]
  rw [e2]
  conv => rhs; rhs; lhs; rw [e1]
  rw [List.take_append_drop,List.take_append_drop]
 refine ⟨g,off,c.toList.take off,c.toList.drop (off + (u0 :: us').length),ty,fr,rfl,?_,by rw [List.length_take]; omega⟩
 rw [← e,hc]
structure InB where
 A:Option Addr
 k:Blk
 us:List Value
def fOf:Option InB → Option Nat
 | some e => if e.us = [] then none else e.A.map (·.block)
 | none => none
def oOf:Option InB → Nat
 | some ⟨some a,_,_⟩ => a.off
 | _ => 0
def kOf (w:World):Option InB → Nat
 | some ⟨some a,_,_⟩ => match w.heap[a.block]? with
  | some (.cells c _ _) => c.size - a.off
  | _ => 0
 | _ => 0
def sgOf (w:World) (x:Nat → Value) (L:List InB):Sg:=⟨fun i => fOf L[i]?,fun i => kOf w L[i]?,x,fun i => oOf L[i]?⟩
theorem oOf_eq {e:InB} {a:Addr} (h:e.A = some a):oOf (some e) = a.off:=by obtain ⟨A,k,us⟩:=e; simp only at h; subst h; rfl
theorem kOf_eq {w:World} {e:InB} {a:Addr} {c:Array Value} {ty:TypeId} {fr:Nat × Nat} (h:e.A = some a) (hh:w.heap[a.block]? = some (.cells c ty fr)):kOf w (some e) = c.size - a.off:=by obtain ⟨A,k,us⟩:=e; simp only at h; subst h; simp [kOf,hh]
theorem rm_ins {w:World} (x:Nat → Value) (L:List InB) (h:∀ (i:Nat) (e:InB),L[i]? = some e → e.k.ro = true ∧ InAt w e.A e.us ∧ RVs (sgOf w x L) e.k.cells e.us) :
  RM ⟨w.heap.size,fun _ => False⟩ w (sgOf w x L) (L.map fun e => some e.k) w:=by
 have get:∀ (i:Nat) (k:Blk),(L.map fun e => some e.k)[i]? = some (some k) → ∃ e,L[i]? = some e ∧ e.k = k:=by
  intro i k hk
  rw [List.getElem?_map] at hk
  obtain ⟨e,h1,h2⟩:=Option.map_eq_some_iff.1 hk
  exact ⟨e,h1,by injection h2⟩
 have at_:∀ (i g:Nat) (e:InB),L[i]? = some e → sgOf w x L i = some g → e.us ≠ [] ∧ ∃ off pre rest ty fr,e.A = some ⟨g,off,none⟩ ∧ w.heap[g]? = some (.cells (pre ++ (e.us ++ rest)).toArray ty fr) ∧ pre.length = off:=by
  intro i g e he hg
  have hg':fOf L[i]? = some g:=hg
  rw [he] at hg'
  simp only [fOf] at hg'
  split at hg'
  ·cases hg'
  ·rename_i hne
   obtain ⟨g',off,pre,rest,ty,fr,h1,h2,h3⟩:=(h i e he).2.1.blk hne
   rw [h1] at hg'
   simp only [Option.map_some,Option.some.injEq] at hg'
   subst hg'
   exact ⟨hne,off,pre,rest,ty,fr,h1,h2,h3⟩
 refine ⟨fun i k g hk hg => ?_,fun i j g ki kj hi hj r1 r2 n1 n2 h1 h2 => ?_,fun i g hg => ?_,fun i g k hk hg hr => ?_,fun i g k hk hg hr _ => ?_,Bel.refl _ _,Nat.le_refl _⟩
 ·obtain ⟨e,he,rfl⟩:=get i k hk
  obtain ⟨hne,off,pre,rest,ty,fr,h1,h2,h3⟩:=at_ i g e he hg
  obtain ⟨hro,_,hv⟩:=h i e he
  refine ⟨pre,e.us,rest,⟨ty,fr,h2,fun hh => by rw [hro] at hh; cases hh⟩,hv,?_,?_,fun hh => by rw [hro] at hh; cases hh⟩
  ·show _ = kOf w L[i]?
   rw [he,kOf_eq h1 h2]
   simp only [← h3]
   simp
  ·show _ = oOf L[i]?
   rw [he,oOf_eq h1]
   exact h3
 ·obtain ⟨e,he,rfl⟩:=get i ki hi
  rw [(h i e he).1] at r1; cases r1
 ·have hg':fOf L[i]? = some g:=hg
  cases he:L[i]? with
  | none => rw [he] at hg'; cases hg'
  | some e => exact ⟨e.k,by rw [List.getElem?_map,he]; rfl⟩
 ·obtain ⟨e,he,rfl⟩:=get i k hk
  rw [(h i e he).1] at hr; cases hr
 ·obtain ⟨e,he,rfl⟩:=get i k hk
  obtain ⟨hne,off,pre,rest,ty,fr,h1,h2,h3⟩:=at_ i g e he hg
  have hlt:=(Array.getElem?_eq_some_iff.1 h2).1
  rintro (hh | hh)
  ·exact absurd hlt (Nat.not_lt.2 hh)
  ·exact hh
theorem va_in {w:World} {x:Nat → Value} {L:List InB} {i n c s:Nat} {e:InB} (he:L[i]? = some e) (hin:InAt w e.A e.us) (hn:n ≤ c) (h0:0 < n → e.us ≠ []):RV (sgOf w x L) (.va i 0 n s) (.slice e.A n c):=by
 simp only [RV]
 refine ⟨e.A,c,rfl,hn,fun hp => ?_⟩
 obtain ⟨g,off,pre,rest,ty,fr,h1,h2,h3⟩:=hin.blk (h0 hp)
 refine ⟨g,?_,?_⟩
 ·show fOf L[i]? = some g
  rw [he]
  simp only [fOf]
  rw [if_neg (h0 hp),h1]
  rfl
 ·rw [h1]
  show _ = some (⟨g,oOf L[i]? + 0 * s,none⟩:Addr)
  rw [he,oOf_eq h1]
  simp
theorem fits_i64:∀ (n:Nat) (y:List Value),Fits (List.replicate n isI64) y → ∃ r:List Int,r.length = n ∧ y = recV (i64s n) 0 r ∧ ∀ v ∈ r,I64 v
 | 0,y,h => ⟨[],rfl,fits_nil h,by simp⟩
 | n + 1,y,h => by
  obtain ⟨c,r,rfl,⟨v,rfl,hv⟩,hr⟩:=fits_cons h
  obtain ⟨l,h1,rfl,h3⟩:=fits_i64 n r hr
  have key:∀ (s:Nat) (k:Nat) (l:List Int),recV (i64s s) (k + 1) (v :: l) = recV (i64s s) k l:=by
   intro s
   induction s with
   | zero => intro k l; rfl
   | succ s ih =>
    intro k l
    show Value.int .i64 ((v :: l).getD (k + 1) 0) :: recV (i64s s) (k + 1 + 1) (v :: l) = .int .i64 (l.getD k 0) :: recV (i64s s) (k + 1) l
    rw [ih]
    rfl
  refine ⟨v :: l,by simp [h1],?_,?_⟩
  ·show _ = Value.int .i64 v :: recV (i64s n) 1 (v :: l)
   rw [key]
  ·intro x hx
   rcases List.mem_cons.1 hx with rfl | hx
   ·exact hv
   ·exact h3 x hx
theorem rows_in {w:World} {A:Option Addr} {n:Nat} {ys:List (List Value)} (h:Go.Proofs.Ytppklhfiajjhmaa.Reads.Rows w A n (List.replicate n isI64) ys) (hn:0 < n) :
  ∃ it:List (List Int),it.length = ys.length ∧ InAt w A (rowsV (i64s n) it) ∧ (∀ r ∈ it,∀ v ∈ r,I64 v) ∧ ∀ r ∈ it,r.length = n:=by
 obtain ⟨h1,h2⟩:=h
 have hex:∀ y,∃ r:List Int,y ∈ ys → (r.length = n ∧ y = recV (i64s n) 0 r ∧ ∀ v ∈ r,I64 v):=by
  intro y
  by_cases hy:y ∈ ys
  ·obtain ⟨r,g1,g2,g3⟩:=fits_i64 n y (h1 y hy)
   exact ⟨r,fun _ => ⟨g1,g2,g3⟩⟩
  ·exact ⟨[],fun hc => absurd hc hy⟩
 obtain ⟨f,hf⟩:=Classical.axiomOfChoice hex
 refine ⟨ys.map f,by simp,?_,?_,?_⟩
 ·intro j u hj
  have hl:=rowsV_len (i64s n) (ys.map f)
  have hs:(i64s n).length = n:=by simp [i64s]
  rw [hs,List.length_map] at hl
  have hjl:=(List.getElem?_eq_some_iff.1 hj).1
  rw [hl] at hjl
  have hq:j / n < ys.length:=(Nat.div_lt_iff_lt_mul hn).2 hjl
  have hm:j % n < n:=Nat.mod_lt _ hn
  have hg:(ys.map f).getD (j / n) [] = f ys[j / n]:=by simp [List.getD_eq_getElem?_getD,hq]
  have hy:=hf ys[j / n] (List.getElem_mem hq)
  have hrl:j % n < (recV (i64s n) 0 ((ys.map f).getD (j / n) [])).length:=by rw [recV_len,hs]; exact hm
  have h3:=rowsV_get (l:=ys.map f) (by simpa using hq) (List.getElem?_eq_getElem hrl)
  rw [hs,Nat.div_add_mod'] at h3
  rw [hj] at h3
  simp only [Option.some.injEq] at h3
  obtain ⟨a,ha,hc⟩:=h2 (j / n) ys[j / n] (List.getElem?_eq_getElem hq)
  refine ⟨a,ha,?_⟩
  have h4:(ys[j / n])[j % n]? = some u:=by
   rw [h3,← List.getElem?_eq_getElem,hg,← hy.2.1]
  have h5:=hc (j % n) u h4
  rwa [Nat.div_add_mod'] at h5
 ·intro r hr v hv
  obtain ⟨y,hy,rfl⟩:=List.mem_map.1 hr
  exact (hf y hy).2.2 v hv
 ·intro r hr
  obtain ⟨y,hy,rfl⟩:=List.mem_map.1 hr
  exact (hf y hy).1
end Go.Proofs.Ytppklhfiajjhmaa.Y
end
