/- What is proved: texts of the law TilesShow, joined by program. Conditions: none but those in each statement. -/
import Derived.Test.YtppklhfiajjhmaaZTilesShow2
import Derived.Laws.AppendOwn
section
namespace Go.Proofs.Ytppklhfiajjhmaa.Y
open Go Go.RowKit
set_option linter.unusedVariables false
set_option linter.unusedSimpArgs false
def recV:List (Option IntKind) → Nat → List Int → List Value
 | [],_,_ => []
 | some k :: sh,c,r => .int k (r.getD c 0) :: recV sh (c + 1) r
 | none :: sh,c,r => .bool (r.getD c 0 != 0) :: recV sh (c + 1) r
theorem recC_V:∀ (sh:List (Option IntKind)) (c:Nat) (r:List Int),recC sh c r = (recV sh c r).map .val
 | [],_,_ => rfl
 | some k :: sh,c,r => by simp [recC,recV,recC_V sh]
 | none :: sh,c,r => by simp [recC,recV,recC_V sh]
theorem recV_len (sh:List (Option IntKind)) (c:Nat) (r:List Int):(recV sh c r).length = sh.length:=by
 have:=recC_len sh c r
 rw [recC_V] at this
 simpa using this
theorem recV_one:∀ (sh:List (Option IntKind)) (c:Nat) (r:List Int),∀ u ∈ recV sh c r,u.oneCell' = true
 | [],c,r,u,h => by simp [recV] at h
 | some k :: sh,c,r,u,h => by
  simp only [recV,List.mem_cons] at h
  rcases h with rfl | h
  ·rfl
  ·exact recV_one sh _ r u h
 | none :: sh,c,r,u,h => by
  simp only [recV,List.mem_cons] at h
  rcases h with rfl | h
  ·rfl
  ·exact recV_one sh _ r u h
def rowsV (sh:List (Option IntKind)) (l:List (List Int)):List Value:=l.flatMap (recV sh 0)
theorem rowsC_V (sh:List (Option IntKind)) (l:List (List Int)):l.flatMap (recC sh 0) = (rowsV sh l).map .val:=by
 unfold rowsV
 induction l with
 | nil => rfl
 | cons r l ih => simp [recC_V,ih]
theorem rowsV_len (sh:List (Option IntKind)) (l:List (List Int)):(rowsV sh l).length = l.length * sh.length:=by
 have:=recs_len sh l
 rw [rowsC_V] at this
 simpa using this
theorem rowsV_one (sh:List (Option IntKind)) (l:List (List Int)):∀ u ∈ rowsV sh l,u.oneCell' = true:=by
 intro u hu
 unfold rowsV at hu
 rw [List.mem_flatMap] at hu
 obtain ⟨r,_,h⟩:=hu
 exact recV_one sh 0 r u h
theorem rows_inv {σ:Sg} {sh:List (Option IntKind)} {l:List (List Int)} {us:List Value} (h:RVs σ (l.flatMap (recC sh 0)) us):us = rowsV sh l:=by
 rw [rowsC_V] at h
 exact RVs.vals_inv h
theorem rows_RVs (σ:Sg) (sh:List (Option IntKind)) (l:List (List Int)):RVs σ (l.flatMap (recC sh 0)) (rowsV sh l):=by
 rw [rowsC_V]
 exact RVs.vals _
theorem rowsV_get {sh:List (Option IntKind)} {l:List (List Int)} {j i:Nat} {u:Value} (hj:j < l.length) (h:(recV sh 0 (l.getD j []))[i]? = some u):(rowsV sh l)[j * sh.length + i]? = some u:=by
 have hp:=recs_part sh hj
 have hl:((l.take j).flatMap (recC sh 0)).length = j * sh.length:=by rw [recs_len]; congr 1; simp; omega
 have hi:i < (recV sh 0 (l.getD j [])).length:=(List.getElem?_eq_some_iff.1 h).1
 have e:((rowsV sh l).map MV.val)[j * sh.length + i]? = some (MV.val u):=by
  rw [← rowsC_V,hp,List.append_assoc,List.getElem?_append_right (by omega),hl,Nat.add_sub_cancel_left,List.getElem?_append_left (by rw [recC_len]; rw [recV_len] at hi; exact hi),recC_V,List.getElem?_map,h]
  rfl
 rw [List.getElem?_map] at e
 obtain ⟨x,h1,h2⟩:=Option.map_eq_some_iff.1 e
 injection h2 with h2
 rw [h1,h2]
def SliceAt (w:World) (u:Value) (sh:List (Option IntKind)) (l:List (List Int)) (ok:Nat → Prop):Prop :=
 ∃ A c,u = .slice A l.length c ∧ l.length ≤ c ∧ (0 < l.length → ∃ ad:Addr,A = some ad ∧ (ok ad.block ∧ ad.spot = none) ∧ ∀ j,j < l.length → ∀ i v,(recV sh 0 (l.getD j []))[i]? = some v → w.cell? (ad.add (j * sh.length + i)) = some v)
theorem SliceAt.mono {w w':World} {u:Value} {sh:List (Option IntKind)} {l:List (List Int)} {ok ok':Nat → Prop} (h:SliceAt w u sh l ok) (hok:∀ g,ok g → ok' g ∧ w'.heap[g]? = w.heap[g]?):SliceAt w' u sh l ok':=by
 obtain ⟨A,c,h1,h2,h3⟩:=h
 refine ⟨A,c,h1,h2,fun hn => ?_⟩
 obtain ⟨ad,e1,e2,e3⟩:=h3 hn
 refine ⟨ad,e1,⟨(hok _ e2.1).1,e2.2⟩,fun j hj i v hv => ?_⟩
 rw [← e3 j hj i v hv]
 have e:(ad.add (j * sh.length + i)).block = ad.block:=by unfold Addr.add; split <;> rfl
 exact World.cell?_of_block (by rw [e]; exact (hok _ e2.1).2)
def parseRow:Nat → List MV → Option (List Int × List MV)
 | 0,cs => some ([],cs)
 | s + 1,.val (.int .i64 v) :: cs => match parseRow s cs with
  | some (r,rest) => some (v :: r,rest)
  | none => none
 | _ + 1,_ => none
def parseRows (s:Nat):Nat → List MV → Option (List (List Int))
 | 0,_ => some []
 | n + 1,cs => match parseRow s cs with
  | some (r,rest) => match parseRows s n rest with
   | some l => some (r :: l)
   | none => none
  | none => none
def i64s (s:Nat):List (Option IntKind):=List.replicate s (some .i64)
theorem recC_i64:∀ (s c:Nat) (pre r:List Int),pre.length = c → r.length = s → recC (i64s s) c (pre ++ r) = r.map (fun v => .val (.int .i64 v))
 | 0,c,pre,r,_,h => by
  have:r = []:=List.eq_nil_of_length_eq_zero h
  subst this
  rfl
 | s + 1,c,pre,[],_,h => by simp at h
 | s + 1,c,pre,v :: r,hp,h => by
  have ih:=recC_i64 s (c + 1) (pre ++ [v]) r (by simp [hp]) (by simpa using h)
  simp only [List.append_assoc,List.singleton_append] at ih
  show recC (some .i64 :: i64s s) c (pre ++ v :: r) = _
  simp only [recC,ih,List.map_cons]
  congr 3
  rw [List.getD_eq_getElem?_getD,List.getElem?_append_right (by omega),hp]
  simp
theorem parseRow_ok:∀ (s:Nat) (cs:List MV) (r:List Int) (rest:List MV),parseRow s cs = some (r,rest) → cs = r.map (fun v => .val (.int .i64 v)) ++ rest ∧ r.length = s
 | 0,cs,r,rest,h => by simp [parseRow] at h; obtain ⟨rfl,rfl⟩:=h; simp
 | s + 1,[],r,rest,h => by simp [parseRow] at h
 | s + 1,c :: cs,r,rest,h => by
  unfold parseRow at h
  split at h
  ·rename_i e; cases e
  ·rename_i s' v cs' e1 e2
   cases e1
   cases e2
   split at h
   ·rename_i r' rest' h1
    simp only [Option.some.injEq,Prod.mk.injEq] at h
    obtain ⟨rfl,rfl⟩:=h
    obtain ⟨g1,g2⟩:=parseRow_ok _ _ _ _ h1
    exact ⟨by rw [g1]; simp,by simp [g2]⟩
   ·cases h
  ·cases h
theorem parseRows_ok (s:Nat):∀ (n:Nat) (cs:List MV) (l:List (List Int)),parseRows s n cs = some l → l.length = n ∧ ∃ rest,cs = l.flatMap (recC (i64s s) 0) ++ rest
 | 0,cs,l,h => by simp [parseRows] at h; subst h; exact ⟨rfl,cs,rfl⟩
 | n + 1,cs,l,h => by
  unfold parseRows at h
  split at h
  ·rename_i r rest h1
   split at h
   ·rename_i l' h2
    simp only [Option.some.injEq] at h
    subst h
    obtain ⟨g1,g2⟩:=parseRow_ok _ _ _ _ h1
    obtain ⟨g3,rest',g4⟩:=parseRows_ok s n rest l' h2
    refine ⟨by simp [g3],rest',?_⟩
    have:=recC_i64 s 0 [] r rfl g2
    simp only [List.nil_append] at this
    rw [g1,g4,List.flatMap_cons,this,List.append_assoc]
   ·cases h
  ·cases h
def rowsOf (T:Nat → Option (List (List Int))) (sh:List (Option IntKind)) (rd:Nat → Option Blk):MV → Option (List (List Int))
 | .val (.slice none 0 0) => some []
 | .va b 0 n s => match (rd b).bind Blk.rec? with
  | some (sh',l) => bif decide (sh' = sh) then (bif l.length == n then (bif s == sh.length then some l else none) else none) else none
  | none => none
 | .xs x n => match T x with
  | some t => bif t.length == n then some t else none
  | none => none
 | .es => some []
 | .sl b 0 n c => match rd b with
  | some kb => bif decide (n ≤ c) then (bif decide (sh = i64s sh.length) then parseRows sh.length n kb.cells else none) else none
  | none => none
 | _ => none
def rowsC (T:Nat → Option (List (List Int))) (sh:List (Option IntKind)) (rd:Nat → Option Blk) (v:MV):Bool × Option (List (List Int)) :=
 match v with
 | .va b 0 n s => match (rd b).bind Blk.rec? with
  | some (sh',l) => (l.length == n,bif decide (sh' = sh) then (bif s == sh.length then some l else none) else none)
  | none => (true,none)
 | .xs x n => match T x with
  | some t => (t.length == n,some t)
  | none => (true,none)
 | v => (true,rowsOf T sh rd v)
theorem rowsC_ok {T:Nat → Option (List (List Int))} {sh:List (Option IntKind)} {rd:Nat → Option Blk} {v:MV} {l:List (List Int)} (h:rowsC T sh rd v = (true,some l)):rowsOf T sh rd v = some l:=by
 unfold rowsC at h
 split at h
 ·rename_i b n s
  split at h
  ·rename_i sh' l' hr
   simp only [Prod.mk.injEq] at h
   obtain ⟨h1,h2⟩:=h
   simp only [rowsOf,hr,h1,cond_true]
   exact h2
  ·simp at h
 ·rename_i x n
  split at h
  ·rename_i t ht
   simp only [Prod.mk.injEq] at h
   obtain ⟨h1,h2⟩:=h
   simp only [rowsOf,ht,h1,cond_true]
   exact h2
  ·simp at h
 ·simpa using h
def outside (sh:List (Option IntKind)) (T:Nat → Option (List (List Int))):Env:=fun B w0 x => ∀ i t,T i = some t → SliceAt w0 (x i) sh t (fun g => ¬ Own B g)
theorem rowsOf_ok {sh:List (Option IntKind)} {T:Nat → Option (List (List Int))} {rd:Nat → Option Blk} {v:MV} {l:List (List Int)} (h:rowsOf T sh rd v = some l) {base:Bs} {w0 w:World} {σ:Sg} {u:Value}
  (hX:outside sh T base w0 σ.x) (hb:Bel base w0 w) (hu:RV σ v u) (hr:∀ b k,b ∈ refs v → rd b = some k → Reads1 σ w b k):SliceAt w u sh l (fun _ => True):=by
 unfold rowsOf at h
 split at h
 ·injection h with h; subst h
  have e:=hu.val_inv
  subst e
  exact ⟨none,0,rfl,Nat.le_refl _,fun hn => absurd hn (Nat.lt_irrefl 0)⟩
 ·rename_i b n s
  split at h
  ·rename_i sh' l' hrec
   cases h1:decide (sh' = sh) with
   | false => rw [h1] at h; simp at h
   | true =>
   cases h2:l'.length == n with
   | false => rw [h1,h2] at h; simp at h
   | true =>
   cases h3:s == sh.length with
   | false => rw [h1,h2,h3] at h; simp at h
   | true =>
    rw [h1,h2,h3] at h
    simp only [cond_true,Option.some.injEq] at h
    subst h
    have e1:sh' = sh:=of_decide_eq_true h1
    have e2:l'.length = n:=by simpa using h2
    have e3:s = sh.length:=by simpa using h3
    subst e1; subst e2; subst e3
    obtain ⟨kb,hk1,hk2⟩:=Option.bind_eq_some_iff.1 hrec
    obtain ⟨A,c,rfl,hc,hA⟩:=hu.va_inv
    refine ⟨A,c,rfl,hc,fun hn => ?_⟩
    obtain ⟨g,hg,rfl⟩:=hA hn
    refine ⟨_,rfl,⟨trivial,rfl⟩,fun j hj i u hu' => ?_⟩
    obtain ⟨pre,cs,rest,⟨tyh,frh,d1,_⟩,d2,d3,d4,d5⟩:=hr b kb (by simp [refs]) hk1 g hg
    rw [Blk.rec_cells hk2] at d2
    have:=rows_inv d2
    subst this
    have hget:=rowsV_get hj hu'
    have:=cell_of (o:=0) d1 (by rw [d4]) hget
    simpa using this
  ·simp at h
 ·rename_i x n
  split at h
  ·rename_i t ht
   cases h1:t.length == n with
   | false => rw [h1] at h; simp at h
   | true =>
    rw [h1] at h
    simp only [cond_true,Option.some.injEq] at h
    subst h
    obtain ⟨e1,_⟩:=hu.xs_inv
    rw [e1]
    exact (hX x t ht).mono (fun g hg => ⟨trivial,hb.block g hg⟩)
  ·simp at h
 ·simp only [Option.some.injEq] at h
  subst h
  simp only [RV] at hu
  obtain ⟨A,c,rfl⟩:=hu
  exact ⟨A,c,rfl,Nat.zero_le _,fun hn => absurd hn (Nat.lt_irrefl 0)⟩
 ·rename_i b n c
  split at h
  ·rename_i kb hkb
   cases h1:decide (n ≤ c) with
   | false => rw [h1] at h; simp at h
   | true =>
   cases h2:decide (sh = i64s sh.length) with
   | false => rw [h1,h2] at h; simp at h
   | true =>
   rw [h1,h2] at h
   simp only [cond_true] at h
   have e1:n ≤ c:=of_decide_eq_true h1
   have e2:sh = i64s sh.length:=of_decide_eq_true h2
   obtain ⟨g1,rest0,g2⟩:=parseRows_ok _ _ _ _ h
   rw [← e2] at g2
   subst g1
   obtain ⟨g,hg,rfl⟩:=hu.sl_inv
   refine ⟨_,c,rfl,e1,fun hn => ?_⟩
   refine ⟨_,rfl,⟨trivial,rfl⟩,fun j hj i u hu' => ?_⟩
   obtain ⟨pre,cs,rest,⟨tyh,frh,d1,_⟩,d2,d3,dp,_⟩:=hr b kb (by simp [refs]) hkb g hg
   rw [g2] at d2
   have hl:(l.flatMap (recC sh 0)).length ≤ cs.length:=by rw [d2.length]; simp
   have d4:=d2.take (l.flatMap (recC sh 0)).length
   rw [List.take_append_of_le_length (Nat.le_refl _),List.take_length] at d4
   have d5:=rows_inv d4
   have hget:=rowsV_get hj hu'
   rw [← d5,List.getElem?_take] at hget
   split at hget
   ·have:=cell_of (o:=0) d1 (by rw [dp]) hget
    simpa using this
   ·cases hget
  ·simp at h
 ·simp at h
theorem fresh_own {σ:Sg} {w w':World} {e s n:Nat} {v:Value} {sh:List (Option IntKind)} {l:List (List Int)} (h:w'.ownsRow w.heap.size e s v n (rowsV sh l)) (hn:n = l.length) (hs:s = sh.length) :
  Fresh σ w w' ⟨.recs sh l,e⟩ (fun b => .va b 0 n s) v:=by
 obtain ⟨h1,h2⟩:=h
 rcases h2 with ⟨rfl,rfl⟩ | ⟨g,cap,cur,rfl,hg,hh,hc,_,hz,ht⟩
 ·right
  intro τ b _
  simp only [RV]
  exact ⟨none,0,rfl,Nat.le_refl _,fun h => absurd h (Nat.lt_irrefl 0)⟩
 ·left
  have hl:=rowsV_len sh l
  refine ⟨g,rowsV sh l,cur.toList.drop (n * s),hg,?_,rows_RVs σ sh l,fun τ b _ hb _ ho => ?_⟩
  ·rw [hh]
   congr 2
   apply Array.ext'
   rw [← ht]
   simp
  ·simp only [RV]
   exact ⟨_,cap,rfl,hc,fun _ => ⟨g,hb,by simp [ho]⟩⟩
end Go.Proofs.Ytppklhfiajjhmaa.Y
end
section
namespace Go.Proofs.Ytppklhfiajjhmaa.Y
open Go Go.RowKit
set_option linter.unusedVariables false
set_option linter.unusedSimpArgs false
def hide:MV → MV
 | .val v => .val v
 | _ => .any
theorem hide_ok {σ τ:Sg}:∀ (l:List MV) (us:List Value),l.all MV.atom = true → RVs σ l us → RVs τ (l.map hide) us
 | [],us,_,e => by simp only [RVs,List.map_nil] at e ⊢; exact e
 | x :: l,us,h,e => by
  simp only [List.all_cons,Bool.and_eq_true] at h
  simp only [RVs,List.map_cons] at e ⊢
  obtain ⟨u,r,e1,e2,e3⟩:=e
  refine ⟨u,r,e1,?_,hide_ok l r h.2 e3⟩
  have ha:=RV.atom e2 h.1
  cases x with
  | val v => simp only [hide,RV] at e2 ⊢; exact e2
  | _ => simp only [hide,RV]; exact ha
abbrev toR1 (F:List MV → Nat → Nat → List MV → Option MV):List MV → (Nat → Option Blk) → KV → Option Out:=fun args rd k => match args with
 | .ptr b o :: ps => match rd b with
  | some kb => bif kb.cells.all MV.atom then (match F (kb.cells.map hide) kb.ty o ps with
   | some v => k v
   | none => none) else none
  | none => none
 | _ => none
theorem Q_one {P:Program} {X:Env} (hS:Stable X) {f:Nat} {F:List MV → Nat → Nat → List MV → Option MV}
  (h:∀ cells ty o ps v,F cells ty o ps = some v → (∃ us,pls ps = some us) ∧ (∃ u,pl v = some u) ∧ XF P X f (.ptr 0 o :: ps) [some ⟨.rlst cells,ty⟩] (fun v1 _ => v1 = v)):QOk P X f (toR1 F):=by
 intro args rd k r hG
 unfold toR1 at hG
 split at hG
 ·rename_i b o ps
  split at hG
  ·rename_i kb hb
   cases ha:kb.cells.all MV.atom with
   | false => rw [ha] at hG; simp at hG
   | true =>
   rw [ha] at hG
   simp only [cond_true] at hG
   split at hG
   ·rename_i v hv
    obtain ⟨⟨us',hps⟩,⟨u,hu⟩,hXF⟩:=h _ _ _ _ _ hv
    refine ⟨v,hG,fun base w0 σ us w hX hbel hbase hus hr => ?_⟩
    simp only [RVs] at hus
    obtain ⟨u0,usr,rfl,h0,h1⟩:=hus
    obtain ⟨g,hg,rfl⟩:=h0.ptr_inv
    have e1:=(pls_ok ps us' hps usr).1 h1
    subst e1
    obtain ⟨pre,cs,rest,d1,d2,d3,d4,d5⟩:=hr b kb (reach_l (by simp [refsL,refs])) hb g hg
    have hlt:g < w.heap.size:=d1.lt
    let σ0:Sg:=⟨fun i => if i = 0 then some g else none,fun _ => (cs ++ rest).length,σ.x,fun _ => σ.off b⟩
    have s0:σ0 0 = some g:=rfl
    have sn:∀ i x,σ0 i = some x → i = 0 ∧ x = g:=by
     intro i x hx
     have hx':(if i = 0 then some g else none) = some x:=hx
     split at hx'
     ·rename_i e; injection hx' with hx'; exact ⟨e,hx'.symm⟩
     ·cases hx'
    let B':Bs:=⟨w.heap.size,fun _ => False⟩
    have nOwn:¬ Own B' g:=by rintro (hh | hh); exact absurd hlt (Nat.not_lt.2 hh); exact hh
    have hM:RM B' w σ0 [some ⟨.rlst (kb.cells.map hide),kb.ty⟩] w:=by
     refine ⟨fun i kk x hk hx => ?_,fun i j x ki kj hi hj r1 r2 n1 n2 h1 h2 => ?_,fun i x hx => ?_,fun i x kk hk hx hro => ?_,fun i x kk hk hx _ _ => ?_,Bel.refl _ _,Nat.le_refl _⟩
     ·obtain ⟨rfl,rfl⟩:=sn i x hx
      simp only [List.getElem?_cons_zero,Option.some.injEq] at hk
      subst hk
      exact ⟨pre,cs,rest,d1.as (fun h => by cases h),hide_ok _ _ ha d2,rfl,d4,fun h => by cases h⟩
     ·obtain ⟨rfl,_⟩:=sn i x h1
      obtain ⟨rfl,_⟩:=sn j x h2
      rfl
     ·obtain ⟨rfl,_⟩:=sn i x hx
      exact ⟨_,rfl⟩
     ·obtain ⟨rfl,_⟩:=sn i x hx
      simp only [List.getElem?_cons_zero,Option.some.injEq] at hk
      subst hk
      cases hro
     ·obtain ⟨_,rfl⟩:=sn i x hx
      exact nOwn
    have hX':X B' w σ0.x:=hS base w0 B' w σ.x hX hbel (by rintro y (hh | hh); exact .inl (Nat.le_trans hbase hh); exact hh.elim) rfl
    refine Calls.mono (hXF B' w σ0 _ w hX' (by simp only [RVs]; exact ⟨_,_,rfl,by simp only [RV]; exact ⟨g,s0,rfl⟩,(pls_ok ps _ hps _).2 rfl⟩) hM) ?_
    rintro e w' ⟨v1,m1,σ1,u1,rfl,rfl,_,h3,h4⟩
    have e2:=(pl_ok v1 u hu u1).1 h3
    subst e2
    exact ⟨u1,rfl,(pl_ok v1 u1 hu u1).2 rfl,h4.bel.to⟩
   ·cases hG
  ·cases hG
 ·cases hG
def runF (P:Program) (E:Eqs) (C:Ctx) (n f:Nat):List MV → Nat → Nat → List MV → Option MV:=fun cells ty o ps => match pls ps with
 | some _ => match xfun P E C n f (.ptr 0 o :: ps) [some ⟨.rlst cells,ty⟩] fin with
  | some (v,_) => match pl v with
   | some _ => some v
   | none => none
  | none => none
 | none => none
theorem Q_run {P:Program} {E:Eqs} {C:Ctx} (hE:EqOk P E) (hC:COk P C) (hm:P.follows .mixedOrders = true) (hS:Stable C.env) (n f:Nat):QOk P C.env f (toR1 (runF P E C n f)):=by
 refine Q_one hS (fun cells ty o ps v h => ?_)
 unfold runF at h
 split at h
 ·rename_i us hus
  split at h
  ·rename_i v' m' hx
   split at h
   ·rename_i u hu
    injection h with h; subst h
    refine ⟨⟨us,hus⟩,⟨u,hu⟩,fun base w0 σ us w hX hu hM => ?_⟩
    refine Calls.mono (xfun_ok hE hC hm hx hX hu hM) ?_
    rintro e w' ⟨v1,m1,σ1,u1,h1,h2,h3,h4,h5⟩
    simp only [Option.some.injEq,Prod.mk.injEq] at h1
    exact ⟨v1,m1,σ1,u1,h1.1,h2,h3,h4,h5⟩
   ·cases h
  ·cases h
 ·cases h
theorem true_stable:Stable (fun _ _ _ => True):=fun _ _ _ _ _ _ _ _ _ => trivial
end Go.Proofs.Ytppklhfiajjhmaa.Y
end
section
namespace Go.Proofs.Ytppklhfiajjhmaa.Y
open Go Go.RowKit
set_option linter.unusedVariables false
set_option linter.unusedSimpArgs false
def cut:Code → List Nat → Code
 | c,[] => c
 | .seq a b,n :: p => match n with
  | 0 => cut a p
  | _ => cut b p
 | .cond _ a b,n :: p => match n with
  | 0 => cut a p
  | _ => cut b p
 | .block _ c,_ :: p => cut c p
 | .loop c,_ :: p => cut c p
 | c,_ :: _ => c
def bodyOf (f:Func):Code:=f.body.getD .skip
section
variable {P:Program} {E:Eqs} {C:Ctx} {X:Env}
theorem XR.cast {c c':Code} {tm:List MV} {m:Mem} {S:XE → List MV → Mem → Prop} (e:c = c') (h:XR P X c' tm m S):XR P X c tm m S:=by rw [e]; exact h
theorem XR.seq_x (hE:EqOk P E) (hC:COk P C) (hm:P.follows .mixedOrders = true) {n:Nat} {a b:Code} {tm tm':List MV} {m m':Mem} {S:XE → List MV → Mem → Prop}
  (h:∀ k:KE,xcode P E C n a tm m k = k .normal tm' m') (hb:XR P C.env b tm' m' S):XR P C.env (.seq a b) tm m S :=
 XR.seq (XR.of_x hE hC hm h hb)
end
end Go.Proofs.Ytppklhfiajjhmaa.Y
end
section
namespace Go.Proofs.Ytppklhfiajjhmaa.Y
open Go Go.RowKit
set_option linter.unusedVariables false
set_option linter.unusedSimpArgs false
mutual
def inb (U:Nat → Bool):MV → Bool
 | .val _ => true
 | .ptr b _ => U b
 | .sl b _ _ _ => U b
 | .gs b _ _ _ => U b
 | .fn _ x y => inbL U x && inbL U y
 | .agg l => inbL U l
 | .tup l => inbL U l
 | .pe b _ _ _ => U b
 | .va b _ n _ => U b || n == 0
 | .xs _ _ => true
 | .es => true
 | .any => true
 | .gv b _ _ => U b
 | .ext _ => true
 | .junk => true
def inbL (U:Nat → Bool):List MV → Bool
 | [] => true
 | x :: l => inb U x && inbL U l
end
mutual
theorem inb_mono {U V:Nat → Bool} (h:∀ b,U b = true → V b = true):∀ x:MV,inb U x = true → inb V x = true
 | .val _,_ => rfl
 | .ptr b o,e => h b e
 | .sl b _ _ _,e => h b e
 | .gs b _ _ _,e => h b e
 | .fn _ x y,e => by
  simp only [inb,Bool.and_eq_true] at e ⊢
  exact ⟨inbL_mono h x e.1,inbL_mono h y e.2⟩
 | .agg l,e => inbL_mono h l e
 | .tup l,e => inbL_mono h l e
 | .pe b _ _ _,e => h b e
 | .va b _ n _,e => by
  simp only [inb,Bool.or_eq_true] at e ⊢
  exact e.imp (h b) id
 | .xs _ _,_ => rfl
 | .es,_ => rfl
 | .any,_ => rfl
 | .gv b _ _,e => h b e
 | .ext _,_ => rfl
 | .junk,_ => rfl
theorem inbL_mono {U V:Nat → Bool} (h:∀ b,U b = true → V b = true):∀ l:List MV,inbL U l = true → inbL V l = true
 | [],_ => rfl
 | x :: l,e => by
  simp only [inbL,Bool.and_eq_true] at e ⊢
  exact ⟨inb_mono h x e.1,inbL_mono h l e.2⟩
end
theorem inbL_append (U:Nat → Bool):∀ a b:List MV,inbL U (a ++ b) = (inbL U a && inbL U b)
 | [],b => rfl
 | x :: a,b => by simp [inbL,inbL_append U a b,Bool.and_assoc]
theorem inb_recC (U:Nat → Bool):∀ (sh:List (Option IntKind)) (c:Nat) (r:List Int),inbL U (recC sh c r) = true
 | [],_,_ => rfl
 | some k :: sh,c,r => by simp [recC,inbL,inb,inb_recC U sh]
 | none :: sh,c,r => by simp [recC,inbL,inb,inb_recC U sh]
theorem inb_recs (U:Nat → Bool) (sh:List (Option IntKind)):∀ l:List (List Int),inbL U (l.flatMap (recC sh 0)) = true
 | [] => rfl
 | r :: l => by simp only [List.flatMap_cons,inbL_append,inb_recC,inb_recs U sh l,Bool.and_self]
def restr (U:Nat → Bool) (σ:Sg):Sg:=⟨fun b => bif U b then σ.f b else none,σ.κ,σ.x,σ.off⟩
theorem restr_in {U:Nat → Bool} {σ:Sg} {b:Nat} (h:U b = true):restr U σ b = σ b:=by show (bif U b then σ.f b else none) = _; rw [h]; rfl
theorem restr_some {U:Nat → Bool} {σ:Sg} {b g:Nat} (h:restr U σ b = some g):U b = true ∧ σ b = some g:=by
 have h':(bif U b then σ.f b else none) = some g:=h
 cases hu:U b with
 | false => rw [hu] at h'; cases h'
 | true => rw [hu] at h'; exact ⟨rfl,h'⟩
mutual
theorem RV.restr {U:Nat → Bool} {σ:Sg}:∀ (x:MV) (u:Value),inb U x = true → RV σ x u → RV (restr U σ) x u
 | .val v,u,_,e => by simp only [RV] at e ⊢; exact e
 | .ptr b o,u,h,e => by simp only [RV] at e ⊢; rw [restr_in h]; exact e
 | .sl b o n c,u,h,e => by simp only [RV] at e ⊢; rw [restr_in h]; exact e
 | .gs b o n s,u,h,e => by simp only [RV] at e ⊢; rw [restr_in h]; exact e
 | .fn f x y,u,h,e => by
  simp only [inb,Bool.and_eq_true] at h
  simp only [RV] at e ⊢; obtain ⟨xs,ys,e1,e2,e3⟩:=e
  exact ⟨xs,ys,RVs.restr x xs h.1 e1,RVs.restr y ys h.2 e2,e3⟩
 | .agg l,u,h,e => by simp only [RV] at e ⊢; obtain ⟨xs,e1,e2⟩:=e; exact ⟨xs,RVs.restr l xs h e1,e2⟩
 | .tup l,u,h,e => by simp only [RV] at e ⊢; obtain ⟨xs,e1,e2⟩:=e; exact ⟨xs,RVs.restr l xs h e1,e2⟩
 | .pe b s i o,u,h,e => by simp only [RV] at e ⊢; rw [restr_in h]; exact e
 | .va b i n s,u,h,e => by
  simp only [RV] at e ⊢; obtain ⟨A,c,e1,e2,e3⟩:=e
  refine ⟨A,c,e1,e2,fun hn => ?_⟩
  simp only [inb,Bool.or_eq_true,beq_iff_eq] at h
  rw [restr_in (h.resolve_right (by omega))]
  exact e3 hn
 | .xs x n,u,_,e => by simp only [RV] at e ⊢; exact e
 | .es,u,_,e => by simp only [RV] at e ⊢; exact e
 | .any,u,_,e => by simp only [RV] at e ⊢; exact e
 | .gv b n s,u,h,e => by simp only [RV] at e ⊢; rw [restr_in h]; exact e
 | .ext i,u,_,e => by simp only [RV] at e ⊢; exact e
 | .junk,u,_,e => by simp only [RV]
theorem RVs.restr {U:Nat → Bool} {σ:Sg}:∀ (l:List MV) (us:List Value),inbL U l = true → RVs σ l us → RVs (restr U σ) l us
 | [],us,_,e => by simp only [RVs] at e ⊢; exact e
 | x :: l,us,h,e => by
  simp only [inbL,Bool.and_eq_true] at h
  simp only [RVs] at e ⊢; obtain ⟨u,r,e1,e2,e3⟩:=e
  exact ⟨u,r,e1,RV.restr x u h.1 e2,RVs.restr l r h.2 e3⟩
end
theorem RM.restr {U:Nat → Bool} {base:Bs} {w0:World} {σ:Sg} {m m':Mem} {w:World} (h:RM base w0 σ m w) (hm:∀ (b:Nat) (k:Blk),m'[b]? = some (some k) → U b = true → m[b]? = some (some k))
  (hc:∀ (b:Nat) (k:Blk),m'[b]? = some (some k) → inbL U k.cells = true) (hd:∀ (b:Nat) (k:Blk),U b = true → m[b]? = some (some k) → ∃ k':Blk,m'[b]? = some (some k')):RM base w0 (restr U σ) m' w:=by
 refine ⟨fun b k g hk hg => ?_,fun b c g k l h1 h2 r1 r2 n1 n2 g1 g2 => ?_,fun b g hg => ?_,fun b g k hk hg => ?_,fun b g k hk hg => ?_,h.bel,h.base⟩
 ·obtain ⟨e1,e2⟩:=restr_some hg
  obtain ⟨pre,cs,rest,a1,a2,a3,a4,a5⟩:=h.blk b k g (hm b k hk e1) e2
  exact ⟨pre,cs,rest,a1,RVs.restr _ _ (hc b k hk) a2,a3,a4,a5⟩
 ·obtain ⟨e1,e2⟩:=restr_some g1
  obtain ⟨e3,e4⟩:=restr_some g2
  exact h.inj b c g k l (hm b k h1 e1) (hm c l h2 e3) r1 r2 n1 n2 e2 e4
 ·obtain ⟨e1,e2⟩:=restr_some hg
  obtain ⟨k,hk⟩:=h.dom b g e2
  exact hd b k e1 hk
 ·obtain ⟨e1,e2⟩:=restr_some hg
  exact h.lo b g k (hm b k hk e1) e2
 ·obtain ⟨e1,e2⟩:=restr_some hg
  exact h.hi b g k (hm b k hk e1) e2
section
variable {P:Program} {E:Eqs} {C:Ctx} {X:Env}
theorem XF.forget {f:Nat} {args:List MV} {m:Mem} {S:MV → Mem → Prop} (h:XF P X f args m (fun v m' => ∃ m1 junk,m' = m1 ++ junk ∧ m.length ≤ m1.length ∧ inb (fun b => decide (b < m1.length)) v = true ∧
  (∀ (b:Nat) (k:Blk),m1[b]? = some (some k) → inbL (fun b => decide (b < m1.length)) k.cells = true) ∧ S v m1)):XF P X f args m S:=by
 intro base w0 σ us w hX hu hM
 refine Calls.mono (h base w0 σ us w hX hu hM) ?_
 rintro e w' ⟨v,m',σ',u,⟨m1,junk,rfl,hl,hv,hc,hS⟩,h1,h2,h3,h4⟩
 refine ⟨v,m1,Y.restr (fun b => decide (b < m1.length)) σ',u,hS,h1,⟨h2.x,fun b g hb => ?_⟩,RV.restr _ _ hv h3,RM.restr h4 (fun b k hk hb => ?_) hc (fun b k hb hk => ?_)⟩
 ·obtain ⟨k,hk⟩:=hM.dom b g hb
  have hbl:=(List.getElem?_eq_some_iff.1 hk).1
  obtain ⟨e1,e2⟩:=h2.to b g hb
  exact ⟨by rw [restr_in (by simp; omega)]; exact e1,e2⟩
 ·rw [List.getElem?_append_left (by simpa using hb)]; exact hk
 ·rw [List.getElem?_append_left (by simpa using hb)] at hk; exact ⟨k,hk⟩
theorem XF.z {Z:Nat → Bool} {f:Nat} {args:List MV} {m m1:Mem} {v1:MV} (h:XF P X f args m (fun v m => v = v1 ∧ m = m1)) (hv:inb (fun b => !Z b) v1 = true)
  (hc:∀ (b:Nat) (k:Blk),m1[b]? = some (some k) → inbL (fun b => !Z b) k.cells = true):XFz P X Z f args m v1 m1:=by
 intro base w0 σ us w hX hu hM
 refine Calls.mono (h base w0 σ us w hX hu hM) ?_
 rintro e w' ⟨v,m',σ',u,⟨rfl,rfl⟩,h1,h2,h3,h4⟩
 have mono:∀ b,(!Z b) = true → (!Z b || (σ b).isSome) = true:=by intro b hb; rw [hb]; rfl
 refine ⟨Y.restr (fun b => !Z b || (σ b).isSome) σ',u,h1,⟨h2.x,fun b g hb => ?_⟩,RV.restr _ _ (inb_mono mono _ hv) h3,RM.restr h4 (fun b k hk _ => hk) (fun b k hk => inbL_mono mono _ (hc b k hk)) (fun b k _ hk => ⟨k,hk⟩),fun i hz hs => ?_⟩
 ·obtain ⟨e1,e2⟩:=h2.to b g hb
  exact ⟨by rw [restr_in (by rw [hb]; simp)]; exact e1,e2⟩
 ·show (bif (!Z i || (σ i).isSome) then σ'.f i else none) = none
  rw [hz,hs]; rfl
structure ExtN (n:Nat) (σ τ:Sg):Prop where
 x:τ.x = σ.x
 to:∀ b g,b < n → σ b = some g → τ b = some g ∧ τ.κ b = σ.κ b ∧ τ.off b = σ.off b
theorem ExtN.trans {n:Nat} {σ τ υ:Sg} (h:ExtN n σ τ) (k:ExtN n τ υ):ExtN n σ υ:=⟨k.x.trans h.x,fun b g hb e => ⟨(k.to b g hb (h.to b g hb e).1).1,(k.to b g hb (h.to b g hb e).1).2.1.trans (h.to b g hb e).2.1,(k.to b g hb (h.to b g hb e).1).2.2.trans (h.to b g hb e).2.2⟩⟩
theorem ExtN.refl (n:Nat) (σ:Sg):ExtN n σ σ:=⟨rfl,fun _ _ _ h => ⟨h,rfl,rfl⟩⟩
theorem Ext.n {σ τ:Sg} (h:Ext σ τ) (n:Nat):ExtN n σ τ:=⟨h.x,fun b g _ e => h.to b g e⟩
def XN (P:Program) (X:Env) (n:Nat) (c:Code) (tm:List MV) (m:Mem) (S:XE → List MV → Mem → Prop):Prop :=
 ∀ base w0 σ a w (Q:Exit → Act → World → Prop),X base w0 σ.x → Rel base w0 σ tm m a w →
  (∀ e tm' m' σ' a' w',S e tm' m' → ExtN n σ σ' → Rel base w0 σ' tm' m' a' w' → Q e.out a' w') → c.wp P Q a w
theorem XR.n {n:Nat} {c:Code} {tm:List MV} {m:Mem} {S:XE → List MV → Mem → Prop} (h:XR P X c tm m S):XN P X n c tm m S :=
 fun base w0 σ a w Q hX hR hK => h base w0 σ a w Q hX hR (fun e t m σ' a' w' hs hx => hK e t m σ' a' w' hs (hx.n n))
theorem XN.of_x {n0:Nat} (hE:EqOk P E) (hC:COk P C) (hm:P.follows .mixedOrders = true) {n:Nat} {c:Code} {tm tm':List MV} {m m':Mem} {e:XE} {S:XE → List MV → Mem → Prop}
  (h:∀ k:KE,xcode P E C n c tm m k = k e tm' m') (hS:S e tm' m'):XN P C.env n0 c tm m S:=XR.n (XR.of_x hE hC hm h hS)
theorem XN.mono {n:Nat} {c:Code} {tm:List MV} {m:Mem} {S T:XE → List MV → Mem → Prop} (h:XN P X n c tm m S) (hST:∀ e t m,S e t m → T e t m):XN P X n c tm m T :=
 fun base w0 σ a w Q hX hR hK => h base w0 σ a w Q hX hR (fun e t m σ' a' w' hs => hK e t m σ' a' w' (hST e t m hs))
theorem XN.cast {n:Nat} {c c':Code} {tm:List MV} {m:Mem} {S:XE → List MV → Mem → Prop} (e:c = c') (h:XN P X n c' tm m S):XN P X n c tm m S:=by rw [e]; exact h
theorem XN.seq {n:Nat} {a b:Code} {tm:List MV} {m:Mem} {S:XE → List MV → Mem → Prop}
  (h:XN P X n a tm m (fun e tm m => match e with
   | .normal => XN P X n b tm m S
   | .exit id => S (.exit id) tm m
   | .ret => S .ret tm m)):XN P X n (.seq a b) tm m S:=by
 intro base w0 σ ac w Q hX hR hK
 refine wp_seq (h base w0 σ ac w _ hX hR ?_)
 intro e tm' m' σ' a' w' h1 h2 h3
 cases e with
 | normal => exact h1 base w0 σ' a' w' Q (by rw [h2.x]; exact hX) h3 (fun e t m υ a'' w'' g1 g2 g3 => hK e t m υ a'' w'' g1 (h2.trans g2) g3)
 | exit id => exact hK (.exit id) _ _ σ' a' w' h1 h2 h3
 | ret => exact hK .ret _ _ σ' a' w' h1 h2 h3
theorem XN.seq_x {n0:Nat} (hE:EqOk P E) (hC:COk P C) (hm:P.follows .mixedOrders = true) {n:Nat} {a b:Code} {tm tm':List MV} {m m':Mem} {S:XE → List MV → Mem → Prop}
  (h:∀ k:KE,xcode P E C n a tm m k = k .normal tm' m') (hb:XN P C.env n0 b tm' m' S):XN P C.env n0 (.seq a b) tm m S :=
 XN.seq (XN.of_x hE hC hm h hb)
theorem XN.block {n:Nat} {id:Nat} {c:Code} {tm:List MV} {m:Mem} {S:XE → List MV → Mem → Prop}
  (h:XN P X n c tm m (fun e tm m => match e with
   | .normal => S .normal tm m
   | .exit i => if i = id then S .normal tm m else S (.exit i) tm m
   | .ret => S .ret tm m)):XN P X n (.block id c) tm m S:=by
 intro base w0 σ ac w Q hX hR hK
 refine wp_block (h base w0 σ ac w _ hX hR ?_)
 intro e tm' m' σ' a' w' h1 h2 h3
 cases e with
 | normal => exact hK .normal _ _ σ' a' w' h1 h2 h3
 | exit i =>
  simp only [XE.out,Exit.inBlock]
  simp only at h1
  split at h1
  ·rename_i hi
   rw [if_pos hi]
   exact hK .normal _ _ σ' a' w' h1 h2 h3
  ·rename_i hi
   rw [if_neg hi]
   exact hK (.exit i) _ _ σ' a' w' h1 h2 h3
 | ret => exact hK .ret _ _ σ' a' w' h1 h2 h3
theorem XN.cond {n:Nat} {t:Nat} {v:Bool} {x y:Code} {tm:List MV} {m:Mem} {S:XE → List MV → Mem → Prop} (hv:tm[t]? = some (.val (.bool v)))
  (h1:v = true → XN P X n x tm m S) (h2:v = false → XN P X n y tm m S):XN P X n (.cond (.tmp t) x y) tm m S:=by
 intro base w0 σ a w Q hX hR hK
 obtain ⟨u,g1,g2⟩:=RVs.get t hR.tm hv
 have e1:=g2.val_inv
 subst e1
 have hev:a.eval (.tmp t) = .bool v:=by
  show a.tmps.getD t undef = _
  have:a.tmps[t]? = some (.bool v):=by simpa using g1
  simp [Array.getD_eq_getD_getElem?,this]
 refine wp_cond hev ?_
 cases v with
 | true => exact h1 rfl base w0 σ a w Q hX hR hK
 | false => exact h2 rfl base w0 σ a w Q hX hR hK
theorem XN.loop {n:Nat} (Inv:Nat → List MV → Mem → Prop) {c:Code} {S:XE → List MV → Mem → Prop}
  (hb:∀ j tm m,Inv j tm m → XN P X n c tm m (fun e tm' m' => match e with
   | .normal => ∃ j',j' < j ∧ Inv j' tm' m'
   | .exit id => S (.exit id) tm' m'
   | .ret => S .ret tm' m')) {j:Nat} {tm:List MV} {m:Mem} (h:Inv j tm m):XN P X n (.loop c) tm m S:=by
 intro base w0 σ a w Q hX hR hK b kk cs
 have key:∀ j tm m σ' a w,Inv j tm m → ExtN n σ σ' → Rel base w0 σ' tm m a w →
   ∃ e a' w',Q e a' w' ∧ Arrives P (lone (b.at a (.code c :: .inLoop c :: kk)) cs w) b kk cs e a' w':=by
  intro j
  induction j using Nat.strongRecOn with
  | _ j ihj =>
   intro tm m σ' a w hI hx hR
   have hw:=hb j tm m hI base w0 σ' a w (fun e a' w' => match e with
    | .normal => ∃ j' tm' m' σ'',j' < j ∧ Inv j' tm' m' ∧ ExtN n σ σ'' ∧ Rel base w0 σ'' tm' m' a' w'
    | e => Q e a' w') (by rw [hx.x]; exact hX) hR (by
     intro e tm' m' σ'' a' w' h1 h2 h3
     cases e with
     | normal => obtain ⟨j',g1,g2⟩:=h1; exact ⟨j',tm',m',σ'',g1,g2,hx.trans h2,h3⟩
     | exit id => exact hK (.exit id) tm' m' σ'' a' w' h1 (hx.trans h2) h3
     | ret => exact hK .ret tm' m' σ'' a' w' h1 (hx.trans h2) h3)
   obtain ⟨e,a₁,w₁,hq,harr⟩:=hw b (.inLoop c :: kk) cs
   cases e with
   | normal =>
    obtain ⟨j',tm',m',σ'',g0,g1,g2,g3⟩:=hq
    obtain ⟨e₂,a₂,w₂,hq₂,harr₂⟩:=ihj j' g0 tm' m' σ'' a₁ w₁ g1 g2 g3
    exact ⟨e₂,a₂,w₂,hq₂,.of_steps (Steps.trans harr (.one step_inLoop)) harr₂⟩
   | exit id => exact ⟨_,a₁,w₁,hq,.pass (x:=.inLoop c) rfl (fun _ _ => .inl (by simp)) harr⟩
   | goto l => exact ⟨_,a₁,w₁,hq,.pass (x:=.inLoop c) rfl (fun _ _ => .inl (by simp)) harr⟩
   | ret => exact ⟨_,a₁,w₁,hq,.pass (x:=.inLoop c) rfl (fun _ _ => .inl (by simp)) harr⟩
   | panic ch => exact ⟨_,a₁,w₁,hq,.pass (x:=.inLoop c) rfl (fun _ _ => .inl (by simp)) harr⟩
   | outgrown => exact ⟨_,a₁,w₁,hq,.pass (x:=.inLoop c) rfl (fun _ _ => .inl (by simp)) harr⟩
 obtain ⟨e,a',w',hq,harr⟩:=key j tm m σ a w h (ExtN.refl n σ) hR
 exact ⟨e,a',w',hq,.of_steps (.one step_loop) harr⟩
theorem keep_tm {U K:Nat → Bool} {σ:Sg}:∀ (l:List MV) (us:List Value) (j:Nat),RVs σ l us → (∀ i x,K (j + i) = true → l[i]? = some x → inb U x = true) →
  ∃ l',l'.length = l.length ∧ (∀ i,K (j + i) = true → l'[i]? = l[i]?) ∧ RVs (restr U σ) l' us
 | [],us,j,h,_ => ⟨[],rfl,fun _ _ => rfl,by simp only [RVs] at h ⊢; exact h⟩
 | x :: l,us,j,h,hk => by
  simp only [RVs] at h
  obtain ⟨u,r,rfl,h1,h2⟩:=h
  obtain ⟨l',e1,e2,e3⟩:=keep_tm l r (j + 1) h2 (fun i y hK hy => hk (i + 1) y (by rw [show j + (i + 1) = j + 1 + i by omega]; exact hK) (by simpa using hy))
  cases hj:K j with
  | true => exact ⟨x :: l',by simp [e1],fun i hi => by
    cases i with
    | zero => rfl
    | succ i => simpa using e2 i (by rw [show j + 1 + i = j + (i + 1) by omega]; exact hi),by
    simp only [RVs]
    exact ⟨u,r,rfl,RV.restr _ _ (hk 0 x hj rfl) h1,e3⟩⟩
  | false => exact ⟨.val u :: l',by simp [e1],fun i hi => by
    cases i with
    | zero => simp [hj] at hi
    | succ i => simpa using e2 i (by rw [show j + 1 + i = j + (i + 1) by omega]; exact hi),by
    simp only [RVs]
    exact ⟨u,r,rfl,rfl,e3⟩⟩
theorem XN.drop {n:Nat} {K:Nat → Bool} {c:Code} {tm:List MV} {m junk:Mem} {S:XE → List MV → Mem → Prop} (hn:n ≤ m.length)
  (hK:∀ i x,K i = true → tm[i]? = some x → inb (fun b => decide (b < m.length)) x = true)
  (hm:∀ (b:Nat) (k:Blk),m[b]? = some (some k) → inbL (fun b => decide (b < m.length)) k.cells = true)
  (h:∀ tm',tm'.length = tm.length → (∀ i,K i = true → tm'[i]? = tm[i]?) → XN P X n c tm' m S):XN P X n c tm (m ++ junk) S:=by
 intro base w0 σ a w Q hX hR hQ
 obtain ⟨tm',e1,e2,e3⟩:=keep_tm (U:=fun b => decide (b < m.length)) (K:=K) tm a.tmps.toList 0 hR.tm (fun i x hi hx => hK i x (by simpa using hi) hx)
 have hM:=hR.mem
 refine h tm' e1 (fun i hi => e2 i (by simpa using hi)) base w0 (restr (fun b => decide (b < m.length)) σ) a w Q hX ⟨hR.df,e3,?_⟩ ?_
 ·refine RM.restr hM (fun b k hk hb => ?_) hm (fun b k hb hk => ?_)
  ·rw [List.getElem?_append_left (by simpa using hb)]; exact hk
  ·rw [List.getElem?_append_left (by simpa using hb)] at hk; exact ⟨k,hk⟩
 ·intro e t m' σ' a' w' hs hx hr
  refine hQ e t m' σ' a' w' hs ⟨hx.x,fun b g hb hg => ?_⟩ hr
  exact hx.to b g hb (by rw [restr_in (by simp; omega)]; exact hg)
theorem XF.of_codeN {f:Nat} {fn:Func} {c:Code} (hf:P.funcs[f]? = some fn) (hb:fn.body = some c) {args:List MV} {m:Mem} {S:MV → Mem → Prop}
  (h:XN P X m.length c (args ++ List.replicate (fn.ntmps - args.length) (.val undef)) m (fun e tm' m' => match e with
   | .exit _ => False
   | _ => ∃ vs,xres P tm' m' fn.results.toList = some vs ∧ S (xpack vs) m')):XF P X f args m S:=by
 refine XF.of_code hf hb ?_
 intro base w0 σ a w Q hX hR hK
 refine h base w0 σ a w Q hX hR (fun e t m' σ' a' w' hs hx hr => hK e t m' σ' a' w' hs ⟨hx.x,fun b g hg => ?_⟩ hr)
 obtain ⟨k,hk⟩:=hR.mem.dom b g hg
 exact hx.to b g (List.getElem?_eq_some_iff.1 hk).1 hg
end
end Go.Proofs.Ytppklhfiajjhmaa.Y
end
section
namespace Go.Proofs.Ytppklhfiajjhmaa.Y
open Go Go.RowKit
set_option linter.unusedVariables false
set_option linter.unusedSimpArgs false
def Sees (rs:List Nat) (σ τ:Sg):Prop:=τ.x = σ.x ∧ ∀ i b,rs[i]? = some b → τ i = σ b ∧ τ.κ i = σ.κ b ∧ τ.off i = σ.off b
def seen (rs:List Nat) (σ:Sg):Sg:=⟨fun i => (rs[i]?).bind σ.f,fun i => σ.κ (rs.getD i 0),σ.x,fun i => σ.off (rs.getD i 0)⟩
theorem seen_sees (rs:List Nat) (σ:Sg):Sees rs σ (seen rs σ):=by
 refine ⟨rfl,fun i b h => ?_⟩
 have e:rs.getD i 0 = b:=by rw [List.getD_eq_getElem?_getD,h]; rfl
 refine ⟨?_,?_,?_⟩
 ·show (rs[i]?).bind σ.f = _; rw [h]; rfl
 ·show σ.κ (rs.getD i 0) = _; rw [e]
 ·show σ.off (rs.getD i 0) = _; rw [e]
theorem seen_mem {base:Bs} {w0 w:World} {σ:Sg} {rs:List Nat} {m0:Mem} (hlen:m0.length = rs.length)
  (hblk:∀ (i:Nat) (k0:Blk),m0[i]? = some (some k0) → k0.ro = true ∧ ∃ (b:Nat) (kb:Blk),rs[i]? = some b ∧ Reads1 σ w b kb ∧ kb.ty = k0.ty ∧ ∀ τ us,Sees rs σ τ → RVs σ kb.cells us → RVs τ k0.cells us)
  (hall:∀ (i b:Nat),rs[i]? = some b → ∃ k0:Blk,m0[i]? = some (some k0)):RM ⟨w.heap.size,fun _ => False⟩ w (seen rs σ) m0 w:=by
 have inv:∀ i g,seen rs σ i = some g → ∃ b,rs[i]? = some b ∧ σ b = some g:=by
  intro i g h
  have h':(rs[i]?).bind σ.f = some g:=h
  obtain ⟨b,h1,h2⟩:=Option.bind_eq_some_iff.1 h'
  exact ⟨b,h1,h2⟩
 have look:∀ (i:Nat) (k0:Blk) (g:Nat),m0[i]? = some (some k0) → seen rs σ i = some g → ∃ pre cs rest,AtH w g k0 (pre ++ (cs ++ rest)) ∧ RVs (seen rs σ) k0.cells cs ∧ (cs ++ rest).length = (seen rs σ).κ i ∧ pre.length = (seen rs σ).off i:=by
  intro i k0 g hk hg
  obtain ⟨hro,b,kb,e1,e3,e4,e5⟩:=hblk i k0 hk
  obtain ⟨b',f1,f2⟩:=inv i g hg
  rw [e1] at f1
  injection f1 with f1; subst f1
  obtain ⟨pre,cs,rest,d1,d2,d3,d4,_⟩:=e3 g f2
  obtain ⟨s1,s2,s3⟩:=(seen_sees rs σ).2 i b e1
  exact ⟨pre,cs,rest,d1.as (fun h => by rw [hro] at h; cases h),e5 _ _ (seen_sees rs σ) d2,by rw [s2]; exact d3,by rw [s3]; exact d4⟩
 refine ⟨fun i k0 g hk hg => ?_,fun i j g ki kj hi hj r1 r2 n1 n2 h1 h2 => ?_,fun i g hg => ?_,fun i g k0 hk hg hr => ?_,fun i g k0 hk hg hr _ => ?_,Bel.refl _ _,Nat.le_refl _⟩
 ·obtain ⟨pre,cs,rest,d1,d2,d3,d4⟩:=look i k0 g hk hg
  exact ⟨pre,cs,rest,d1,d2,d3,d4,fun h => by rw [(hblk i k0 hk).1] at h; cases h⟩
 ·rw [(hblk i ki hi).1] at r1; cases r1
 ·obtain ⟨b,h1,_⟩:=inv i g hg
  exact hall i b h1
 ·rw [(hblk i k0 hk).1] at hr; cases hr
 ·obtain ⟨pre,cs,rest,d1,_⟩:=look i k0 g hk hg
  have hlt:g < w.heap.size:=d1.lt
  rintro (hh | hh)
  ·exact absurd hlt (Nat.not_lt.2 hh)
  ·exact hh
theorem N_va {P:Program} {X:Env} (hS:Stable X) {f:Nat} {args0:List MV} {m0:Mem} {sh:List (Option IntKind)} {l:List (List Int)} {ty n:Nat} {rs:List Nat}
  (hf:XF P X f args0 m0 (fun v m' => v = .va m0.length 0 n sh.length ∧ m' = m0 ++ [some ⟨.recs sh l,ty⟩])) {base:Bs} {w0 w:World} {σ:Sg} {us:List Value}
  (hX:X base w0 σ.x) (hb:Bel base w0 w) (hn:base.n ≤ w.heap.size) (hlen:m0.length = rs.length) (hargs:∀ τ,Sees rs σ τ → RVs τ args0 us)
  (hblk:∀ (i:Nat) (k0:Blk),m0[i]? = some (some k0) → k0.ro = true ∧ ∃ (b:Nat) (kb:Blk),rs[i]? = some b ∧ Reads1 σ w b kb ∧ kb.ty = k0.ty ∧ ∀ τ us,Sees rs σ τ → RVs σ kb.cells us → RVs τ k0.cells us)
  (hall:∀ (i b:Nat),rs[i]? = some b → ∃ k0:Blk,m0[i]? = some (some k0)) :
  Calls P f us.toArray w fun e w' => ∃ u,e = .returned u ∧ Fresh σ w w' ⟨.recs sh l,ty⟩ (fun b => .va b 0 n sh.length) u ∧ Below w.heap.size w w':=by
 have hM:=seen_mem (base:=base) (w0:=w0) hlen hblk hall
 have hX':X ⟨w.heap.size,fun _ => False⟩ w (seen rs σ).x:=hS base w0 _ w σ.x hX hb (by rintro y (hh | hh); exact .inl (Nat.le_trans hn hh); exact hh.elim) rfl
 refine Calls.mono (hf _ w (seen rs σ) us w hX' (hargs _ (seen_sees rs σ)) hM) ?_
 rintro e w' ⟨v1,m1,σ1,u1,⟨rfl,rfl⟩,rfl,_,h3,h4⟩
 refine ⟨u1,rfl,?_,h4.bel.to⟩
 obtain ⟨A,c,rfl,hc,hA⟩:=h3.va_inv
 have hq:(m0 ++ [some ⟨.recs sh l,ty⟩]:Mem)[m0.length]? = some (some ⟨.recs sh l,ty⟩):=by rw [List.getElem?_append_right (Nat.le_refl _),Nat.sub_self]; rfl
 cases hg:σ1 m0.length with
 | none =>
  right
  intro τ b _
  simp only [RV]
  refine ⟨A,c,rfl,hc,fun hpos => ?_⟩
  obtain ⟨g,hg',_⟩:=hA hpos
  rw [hg] at hg'; cases hg'
 | some g =>
  left
  obtain ⟨pre,cs,rest,d1,d2,d3,d4,d5⟩:=h4.blk _ _ g hq hg
  have hp:=d5 rfl
  subst hp
  have hlo:=h4.lo _ g _ hq hg rfl
  have hge:w.heap.size ≤ g:=by
   rcases hlo with h | h
   ·exact h
   ·exact h.elim
  have hcs:=rows_inv d2
  subst hcs
  refine ⟨g,_,rest,hge,by simpa using d1.own rfl,rows_RVs σ sh l,fun τ b _ hτ _ ho => ?_⟩
  simp only [RV]
  refine ⟨A,c,rfl,hc,fun hpos => ?_⟩
  obtain ⟨g',hg',hA'⟩:=hA hpos
  rw [hg] at hg'
  injection hg' with hg'; subst hg'
  refine ⟨g,hτ,?_⟩
  rw [hA',ho]
  simp at d4
  rw [← d4]
end Go.Proofs.Ytppklhfiajjhmaa.Y
end
section
namespace Go.Proofs.Ytppklhfiajjhmaa.Y
open Go Go.RowKit
set_option linter.unusedVariables false
set_option linter.unusedSimpArgs false
def J (n:Nat):List MV:=List.replicate n .junk
def renK (r:Nat → Nat) (k:Blk):Blk:=match k.row with
 | .lst l => ⟨.lst (renL r l),k.ty⟩
 | .rlst l => ⟨.rlst (renL r l),k.ty⟩
 | .recs sh l => ⟨.recs sh l,k.ty⟩
 | .rrecs sh l => ⟨.rrecs sh l,k.ty⟩
theorem renK_cells (r:Nat → Nat) (k:Blk):(renK r k).cells = renL r k.cells ∧ (renK r k).ty = k.ty ∧ (renK r k).ro = k.ro:=by
 obtain ⟨row,ty⟩:=k
 cases row with
 | lst l => exact ⟨rfl,rfl,rfl⟩
 | rlst l => exact ⟨rfl,rfl,rfl⟩
 | recs sh l => exact ⟨(renL_recs r sh l).symm,rfl,rfl⟩
 | rrecs sh l => exact ⟨(renL_recs r sh l).symm,rfl,rfl⟩
def inbB (U:Nat → Bool) (k:Blk):Bool:=match k.row with
 | .lst l => inbL U l
 | .rlst l => inbL U l
 | _ => true
theorem inbB_cells {U:Nat → Bool} {k:Blk} (h:inbB U k = true):inbL U k.cells = true:=by
 obtain ⟨row,ty⟩:=k
 cases row with
 | lst l => exact h
 | rlst l => exact h
 | recs sh l => exact inb_recs U sh l
 | rrecs sh l => exact inb_recs U sh l
def normT (K:Nat → Bool) (r:Nat → Nat):Nat → List MV → List MV
 | _,[] => []
 | i,x :: l => (match K i with
  | true => ren r x
  | false => .junk) :: normT K r (i + 1) l
def normM (r:Nat → Nat) (rs:List Nat) (m:Mem):Mem:=rs.map fun b => match m[b]? with
 | some (some k) => some (renK r k)
 | _ => none
def chkT (K U:Nat → Bool):Nat → List MV → Bool
 | _,[] => true
 | i,x :: l => (match K i with
  | true => inb U x
  | false => true) && chkT K U (i + 1) l
def memb:List Nat → Nat → Bool
 | [],_ => false
 | b :: l,c => (b == c) || memb l c
theorem memb_mem:∀ {l:List Nat} {b:Nat},memb l b = true ↔ b ∈ l
 | [],b => by simp [memb]
 | a :: l,b => by
  simp only [memb,Bool.or_eq_true,beq_iff_eq,List.mem_cons,memb_mem (l:=l)]
  constructor
  ·rintro (h | h); exact .inl h.symm; exact .inr h
  ·rintro (h | h); exact .inl h.symm; exact .inr h
def posn:List Nat → Nat → Nat
 | [],_ => 0
 | b :: l,c => bif b == c then 0 else posn l c + 1
theorem posn_at:∀ {l:List Nat} {b:Nat},b ∈ l → l[posn l b]? = some b
 | [],b,h => by simp at h
 | a :: l,b,h => by
  unfold posn
  by_cases e:a = b
  ·simp [e]
  ·have:(a == b) = false:=by simp [e]
   rw [this]
   simp only [cond_false,List.getElem?_cons_succ]
   exact posn_at ((List.mem_cons.1 h).resolve_left (Ne.symm e))
def nodupB:List Nat → Bool
 | [] => true
 | b :: l => !memb l b && nodupB l
theorem nodupB_ok:∀ {l:List Nat},nodupB l = true → l.Nodup
 | [],_ => List.nodup_nil
 | b :: l,h => by
  simp only [nodupB,Bool.and_eq_true,Bool.not_eq_true'] at h
  refine List.nodup_cons.2 ⟨fun hm => ?_,nodupB_ok h.2⟩
  rw [memb_mem.2 hm] at h; cases h.1
def firstB (n:Nat):Nat → List Nat → Bool
 | 0,_ => true
 | d + 1,b :: l => (b == n - (d + 1)) && firstB n d l
 | _ + 1,[] => false
theorem firstB_ok {n:Nat}:∀ (d:Nat) (l:List Nat),d ≤ n → firstB n d l = true → ∀ i,i < d → l[i]? = some (n - d + i)
 | 0,l,_,_,i,hi => by omega
 | d + 1,[],_,h,i,hi => by cases h
 | d + 1,b :: l,hd,h,i,hi => by
  simp only [firstB,Bool.and_eq_true,beq_iff_eq] at h
  cases i with
  | zero => simp [h.1]
  | succ i =>
   rw [List.getElem?_cons_succ,firstB_ok d l (by omega) h.2 i (by omega)]
   congr 1; omega
def chkM (U:Nat → Bool) (m:Mem):List Nat → Bool
 | [] => true
 | b :: l => (match m[b]? with
  | some (some k) => inbB U k
  | _ => true) && chkM U m l
theorem chkM_ok {U:Nat → Bool} {m:Mem}:∀ {l:List Nat},chkM U m l = true → ∀ b ∈ l,∀ k,m[b]? = some (some k) → inbB U k = true
 | [],_,b,hb,_,_ => by simp at hb
 | a :: l,h,b,hb,k,hk => by
  simp only [chkM,Bool.and_eq_true] at h
  rcases List.mem_cons.1 hb with rfl | hb
  ·have:=h.1; rw [hk] at this; exact this
  ·exact chkM_ok h.2 b hb k hk
def normChk (n:Nat) (K:Nat → Bool) (rs:List Nat) (tm:List MV) (m:Mem):Bool :=
 nodupB rs && firstB n n rs && chkT K (memb rs) 0 tm && chkM (memb rs) m rs
theorem normT_ok {U K:Nat → Bool} {σ τ:Sg} {r:Nat → Nat} (hx:τ.x = σ.x) (h:∀ i g,restr U σ i = some g → τ (r i) = some g ∧ τ.κ (r i) = (restr U σ).κ i ∧ τ.off (r i) = (restr U σ).off i) :
  ∀ (l:List MV) (us:List Value) (i:Nat),chkT K U i l = true → RVs σ l us → RVs τ (normT K r i l) us
 | [],us,i,_,e => by simp only [RVs,normT] at e ⊢; exact e
 | x :: l,us,i,hc,e => by
  simp only [chkT,Bool.and_eq_true] at hc
  simp only [RVs,normT] at e ⊢
  obtain ⟨u,q,e1,e2,e3⟩:=e
  refine ⟨u,q,e1,?_,normT_ok hx h l q (i + 1) hc.2 e3⟩
  cases hk:K i with
  | false => simp only [RV]
  | true =>
   have h1:=hc.1
   rw [hk] at h1
   exact ren_ok (σ:=restr U σ) hx h x u (RV.restr x u h1 e2)
theorem Rel.norm {base:Bs} {w0 w:World} {σ:Sg} {tm:List MV} {m:Mem} {a:Act} {n:Nat} {K:Nat → Bool} {rs:List Nat} (h:Rel base w0 σ tm m a w) (hc:normChk n K rs tm m = true) :
  ∃ τ,ExtN n σ τ ∧ Rel base w0 τ (normT K (posn rs) 0 tm) (normM (posn rs) rs m) a w:=by
 unfold normChk at hc
 simp only [Bool.and_eq_true] at hc
 obtain ⟨⟨⟨h1,h2⟩,h3⟩,h4⟩:=hc
 have hnd:=nodupB_ok h1
 have hfst:∀ i,i < n → rs[i]? = some i:=fun i hi => by have:=firstB_ok n rs (Nat.le_refl n) h2 i hi; simpa using this
 let τ:Sg:=⟨fun i => (rs[i]?).bind σ.f,fun i => σ.κ (rs.getD i 0),σ.x,fun i => σ.off (rs.getD i 0)⟩
 have τat:∀ i b,rs[i]? = some b → τ i = σ b ∧ τ.κ i = σ.κ b ∧ τ.off i = σ.off b:=by
  intro i b hb
  have e:rs.getD i 0 = b:=by rw [List.getD_eq_getElem?_getD,hb]; rfl
  refine ⟨?_,?_,?_⟩
  ·show (rs[i]?).bind σ.f = _; rw [hb]; rfl
  ·show σ.κ (rs.getD i 0) = _; rw [e]
  ·show σ.off (rs.getD i 0) = _; rw [e]
 have τinv:∀ i g,τ i = some g → ∃ b,rs[i]? = some b ∧ σ b = some g:=by
  intro i g hg
  have hg':(rs[i]?).bind σ.f = some g:=hg
  obtain ⟨b,e1,e2⟩:=Option.bind_eq_some_iff.1 hg'
  exact ⟨b,e1,e2⟩
 have to:∀ b g,restr (memb rs) σ b = some g → τ (posn rs b) = some g ∧ τ.κ (posn rs b) = (restr (memb rs) σ).κ b ∧ τ.off (posn rs b) = (restr (memb rs) σ).off b:=by
  intro b g hb
  obtain ⟨e1,e2⟩:=restr_some hb
  obtain ⟨f1,f2,f3⟩:=τat _ _ (posn_at (memb_mem.1 e1))
  exact ⟨f1.trans e2,f2,f3⟩
 have get:∀ (i:Nat) (k:Blk),(normM (posn rs) rs m)[i]? = some (some k) → ∃ b k0,rs[i]? = some b ∧ m[b]? = some (some k0) ∧ k = renK (posn rs) k0:=by
  intro i k hk
  unfold normM at hk
  rw [List.getElem?_map] at hk
  obtain ⟨b,e1,e2⟩:=Option.map_eq_some_iff.1 hk
  split at e2
  ·rename_i k0 hk0
   simp only [Option.some.injEq] at e2
   exact ⟨b,k0,e1,hk0,e2.symm⟩
  ·cases e2
 refine ⟨τ,⟨rfl,fun b g hb hg => ?_⟩,h.df,normT_ok (σ:=σ) (τ:=τ) rfl to tm _ 0 h3 h.tm,⟨fun i k g hk hg => ?_,fun i j g ki kj hi hj r1 r2 n1 n2 g1 g2 => ?_,fun i g hg => ?_,fun i g k hk hg hr => ?_,fun i g k hk hg hr hn => ?_,h.mem.bel,h.mem.base⟩⟩
 ·obtain ⟨f1,f2,f3⟩:=τat b b (hfst b hb)
  exact ⟨f1.trans hg,f2,f3⟩
 ·obtain ⟨b,k0,e1,e2,rfl⟩:=get i k hk
  obtain ⟨c1,c2,c3⟩:=renK_cells (posn rs) k0
  obtain ⟨f1,f2,f3⟩:=τat i b e1
  rw [f1] at hg
  obtain ⟨pre,cs,rest,d1,d2,d3,d4,d5⟩:=h.mem.blk b k0 g e2 hg
  have hin:=inbB_cells (chkM_ok h4 b (List.mem_of_getElem? e1) k0 e2)
  refine ⟨pre,cs,rest,d1.as (fun hro => ⟨by rw [← c3]; exact hro,c2⟩),?_,by rw [f2]; exact d3,by rw [f3]; exact d4,fun hro => d5 (by rw [← c3]; exact hro)⟩
  rw [c1]
  exact renL_ok (σ:=restr (memb rs) σ) (τ:=τ) rfl to _ _ (RVs.restr _ _ hin d2)
 ·obtain ⟨b,k0,e1,e2,rfl⟩:=get i ki hi
  obtain ⟨b',k0',e1',e2',rfl⟩:=get j kj hj
  obtain ⟨c1,_,c3⟩:=renK_cells (posn rs) k0
  obtain ⟨c1',_,c3'⟩:=renK_cells (posn rs) k0'
  rw [(τat i b e1).1] at g1
  rw [(τat j b' e1').1] at g2
  have:=h.mem.inj b b' g k0 k0' e2 e2' (by rw [← c3]; exact r1) (by rw [← c3']; exact r2) (fun e => n1 (by rw [c1,e]; rfl)) (fun e => n2 (by rw [c1',e]; rfl)) g1 g2
  subst this
  exact nodup_at hnd e1 e1'
 ·obtain ⟨b,e1,e2⟩:=τinv i g hg
  obtain ⟨k,hk⟩:=h.mem.dom b g e2
  exact ⟨renK (posn rs) k,by unfold normM; rw [List.getElem?_map,e1]; simp only [Option.map_some,hk]⟩
 ·obtain ⟨b,k0,e1,e2,rfl⟩:=get i k hk
  rw [(τat i b e1).1] at hg
  exact h.mem.lo b g k0 e2 hg (by rw [← (renK_cells (posn rs) k0).2.2]; exact hr)
 ·obtain ⟨b,k0,e1,e2,rfl⟩:=get i k hk
  rw [(τat i b e1).1] at hg
  exact h.mem.hi b g k0 e2 hg (by rw [← (renK_cells (posn rs) k0).2.2]; exact hr) (fun e => hn (by rw [(renK_cells (posn rs) k0).1,e]; rfl))
section
variable {P:Program} {E:Eqs} {C:Ctx} {X:Env}
def nk (n:Nat) (K:List Nat) (rs:List Nat) (kk:KE):KE:=fun e tm m => bif normChk n (memb K) rs tm m then fl (normT (memb K) (posn rs) 0 tm) (fun tm => fl (normM (posn rs) rs m) (fun m => kk e tm m)) else none
theorem XN.of_xn {n0:Nat} (hE:EqOk P E) (hC:COk P C) (hm:P.follows .mixedOrders = true) {n:Nat} {K rs:List Nat} {c:Code} {tm tm':List MV} {m m':Mem} {e:XE} {S:XE → List MV → Mem → Prop}
  (h:∀ k:KE,xcode P E C n0 c tm m (nk n K rs k) = k e tm' m') (hS:S e tm' m'):XN P C.env n c tm m S:=by
 intro base w0 σ a w Q hX hR hK
 refine xcode_ok hE hC hm (n:=n0) c (k:=nk n K rs fun e1 t1 m1 => open Classical in if e1 = e ∧ t1 = tm' ∧ m1 = m' then some (.val undef,[]) else none) (r:=(.val undef,[])) (by rw [h]; simp) hX hR ?_
 intro e1 t1 m1 σ' a' w' h1 h2 h3
 unfold nk at h1
 simp only [fl_eq] at h1
 cases hc:normChk n (memb K) rs t1 m1 with
 | false => rw [hc] at h1; cases h1
 | true =>
  rw [hc] at h1
  simp only [cond_true] at h1
  split at h1
  ·rename_i hh
   obtain ⟨rfl,ht,hmm⟩:=hh
   obtain ⟨τ,g1,g2⟩:=h3.norm hc
   rw [ht,hmm] at g2
   exact hK _ _ _ _ _ _ hS ((h2.n n).trans g1) g2
  ·cases h1
theorem XN.norm {n:Nat} {K rs:List Nat} {c:Code} {tm:List MV} {m:Mem} {S:XE → List MV → Mem → Prop} (hc:normChk n (memb K) rs tm m = true) (h:XN P X n c (normT (memb K) (posn rs) 0 tm) (normM (posn rs) rs m) S):XN P X n c tm m S:=by
 intro base w0 σ a w Q hX hR hK
 obtain ⟨τ,g1,g2⟩:=hR.norm hc
 exact h base w0 τ a w Q (by rw [g1.x]; exact hX) g2 (fun e t m σ' a' w' hs he hr => hK e t m σ' a' w' hs (g1.trans he) hr)
theorem XN.seq_xn {n0:Nat} (hE:EqOk P E) (hC:COk P C) (hm:P.follows .mixedOrders = true) {n:Nat} {K rs:List Nat} {a b:Code} {tm tm':List MV} {m m':Mem} {S:XE → List MV → Mem → Prop}
  (h:∀ k:KE,xcode P E C n0 a tm m (nk n K rs k) = k .normal tm' m') (hb:XN P C.env n b tm' m' S):XN P C.env n (.seq a b) tm m S :=
 XN.seq (XN.of_xn hE hC hm h hb)
end
end Go.Proofs.Ytppklhfiajjhmaa.Y
end
section
namespace Go.Proofs.Ytppklhfiajjhmaa.Y
open Go Go.RowKit
set_option linter.unusedVariables false
set_option linter.unusedSimpArgs false
def tailOk (ops:List Oper) (n:Nat):Bool :=
  edgesOk ops 0 && decide (n ≤ ops.length) && ((befs ops []).zipIdx.all fun (b,i) => decide (i < n) || (List.range i).all fun j => b.testBit j) &&
    ((ops.take n).all fun o => match o.guard with
      | some (j,_) => decide (j < n)
      | none => true)
theorem Oper.wp_Q {P:Program} {o:Oper} {a:Act} {w:World} {K:Act → World → Prop} {Q Q':Exit → Act → World → Prop} (hQ:∀ e a w,e ≠ .normal → Q e a w → Q' e a w) (h:o.wp P a w K Q):o.wp P a w K Q':=by
  unfold Oper.wp at *
  generalize (execOp a.eval o).run P w = r at *
  cases r with
  | ok n w' =>
    cases n <;> simp only [Oper.upon] at h ⊢ <;>
      first
        | exact h
        | (refine Calls.mono h (fun e w'' he => ?_)
           cases e with
           | returned v => exact he
           | panicked c => exact hQ _ _ _ (by simp) he
           | outgrown => obtain ⟨a1,w1,h1⟩:=he; exact ⟨a1,w1,hQ _ _ _ (by simp) h1⟩)
  | halt x w' =>
    cases x <;> simp only [Oper.upon] at h ⊢ <;>
      first
        | exact h
        | exact hQ _ _ _ (by simp) h
theorem wpOp_Q {P:Program} {ops:Array Oper} {i:Nat} {a:Act} {w:World} {K:Act → World → Prop} {Q Q':Exit → Act → World → Prop} (hQ:∀ e a w,e ≠ .normal → Q e a w → Q' e a w) (h:wpOp P ops Q i K a w):wpOp P ops Q' i K a w:=by
  unfold wpOp at *
  split
  · simpa [*] using h
  · rename_i o ho
    simp only [ho] at h
    split
    · rename_i hw
      simp only [hw,if_true] at h
      rcases h with h | ⟨h1,a1,w1,h2⟩
      · exact .inl (Oper.wp_Q hQ h)
      · exact .inr ⟨h1,a1,w1,hQ _ _ _ (by simp) h2⟩
    · rename_i hw
      simp only [hw] at h
      exact h
theorem ready_iff (ops:Array Oper) (L:Array Bool) (i:Nat):i ∈ Region.ready .any ops L ↔ ∃ o,ops.toList[i]? = some o ∧ L.getD i true = false ∧ ∀ e ∈ edgesOf o,L.getD e false = true:=by
  unfold Region.ready
  rw [List.mem_filter]
  constructor
  · rintro ⟨h1,h2⟩
    have hi:i < ops.size:=by simpa using h1
    refine ⟨ops[i],by simp [hi],?_⟩
    simp only [Bool.and_eq_true,Bool.not_eq_true',hi,getElem?_pos,Option.map_some,Option.getD_some,Array.all_eq_true_iff_forall_mem] at h2
    refine ⟨h2.1,fun e he => ?_⟩
    unfold edgesOf at he
    rw [List.mem_map] at he
    obtain ⟨x,hx1,rfl⟩:=he
    rw [List.mem_filter] at hx1
    have:=h2.2 x (by simpa using hx1.1)
    simp only [Bool.or_eq_true,Bool.not_eq_true'] at this
    rcases this with h3 | h3
    · rw [hx1.2] at h3; cases h3
    · exact h3
  · rintro ⟨o,ho,h1,h2⟩
    have hi:i < ops.size:=by have:=(List.getElem?_eq_some_iff.1 ho).1; simpa using this
    refine ⟨by simpa using hi,?_⟩
    have ho':ops[i]? = some o:=by simpa using ho
    simp only [h1,ho',Option.map_some,Option.getD_some,Bool.not_false,Bool.true_and,Array.all_eq_true_iff_forall_mem]
    intro e he
    simp only [Bool.or_eq_true,Bool.not_eq_true']
    cases hb:Region.binds .any e with
    | false => exact .inl rfl
    | true =>
      right
      exact h2 e.on (by unfold edgesOf; rw [List.mem_map]; exact ⟨e,by rw [List.mem_filter]; exact ⟨by simpa using he,hb⟩,rfl⟩)
section
variable {P:Program} {E:Eqs} {C:Ctx} {base:Bs} {w0:World}
def upTo (n s:Nat):Array Bool:=(List.replicate s true ++ List.replicate (n - s) false).toArray
theorem upTo_getD (n s j:Nat) (hs:s ≤ n) (d:Bool):(upTo n s).getD j d = if j < s then true else if j < n then false else d:=by
  unfold upTo
  have e:((List.replicate s true ++ List.replicate (n - s) false).toArray).getD j d = ((List.replicate s true ++ List.replicate (n - s) false)[j]?).getD d:=by
    simp [Array.getD_eq_getD_getElem?]
  rw [e]
  by_cases h1:j < s
  · rw [if_pos h1,List.getElem?_append_left (by simpa using h1)]
    simp [List.getElem?_replicate,h1]
  · rw [if_neg h1,List.getElem?_append_right (by simp; omega)]
    by_cases h2:j < n
    · rw [if_pos h2]
      simp only [List.length_replicate,List.getElem?_replicate]
      rw [if_pos (by omega)]
      rfl
    · rw [if_neg h2]
      simp only [List.length_replicate,List.getElem?_replicate]
      rw [if_neg (by omega)]
      rfl
theorem upTo_set (n s:Nat) (hs:s < n):(upTo n s).setIfInBounds s true = upTo n (s + 1):=by
  apply Array.ext'
  rw [Array.toList_setIfInBounds]
  unfold upTo
  simp only
  rw [List.set_append_right _ _ (by simp),List.length_replicate,Nat.sub_self,List.replicate_succ',List.append_assoc]
  congr 1
  obtain ⟨d,hd⟩:∃ d,n - s = d + 1:=⟨n - s - 1,by omega⟩
  rw [hd,show n - (s + 1) = d by omega,List.replicate_succ]
  rfl
theorem tail_bits {ops:List Oper} {n:Nat} (h:tailOk ops n = true) {i:Nat} (hi:i < ops.length) (hn:n ≤ i) {j:Nat} (hj:j < i):((befs ops []).getD i 0).testBit j = true:=by
  unfold tailOk at h
  simp only [Bool.and_eq_true,List.all_eq_true] at h
  have hl:=befs_len ops []
  simp only [List.length_nil,Nat.zero_add] at hl
  have h1:=h.1.2 ((befs ops [])[i]'(by omega),i) (by rw [List.mem_zipIdx_iff_getElem?]; exact List.getElem?_eq_getElem (by omega))
  simp only [Bool.or_eq_true,decide_eq_true_eq,List.all_eq_true,List.mem_range] at h1
  rcases h1 with h1 | h1
  · omega
  · rw [List.getD_eq_getElem?_getD,List.getElem?_eq_getElem (by omega)]
    exact h1 j hj
theorem tail_ready {ops:Array Oper} {n:Nat} (h:tailOk ops.toList n = true) {L:Array Bool} (hcl:Closed ops.toList (fun j => L.getD j false)) {i:Nat} (hi:i ∈ Region.ready .any ops L) (hn:n ≤ i):∀ j,j < i → L.getD j false = true:=by
  obtain ⟨o,ho,_,he⟩:=(ready_iff ops L i).1 hi
  have hs:=befs_spec (fun j => L.getD j false) ops.toList [] [] rfl hcl (by intro j i o hj; simp at hj)
  simp only [List.nil_append] at hs
  intro j hj
  exact hs i j o ho (tail_bits h (List.getElem?_eq_some_iff.1 ho).1 hn hj) he
theorem upTo_closed {ops:Array Oper} (hedge:edgesOk ops.toList 0 = true) {s:Nat} (hs:s ≤ ops.size):Closed ops.toList (fun j => (upTo ops.size s).getD j false):=by
  intro j o ho hj e he
  have h1:=edges_lt ops.toList 0 j o hedge ho e he
  simp only [upTo_getD _ _ _ hs] at hj ⊢
  split at hj
  · rw [if_pos (by omega)]
  · split at hj <;> cases hj
theorem tail_any (hE:EqOk P E) (hC:COk P C) {ops:Array Oper} {n:Nat} (ht:tailOk ops.toList n = true) {Q:Exit → Act → World → Prop}:∀ (l:List Oper) (s fuel:Nat) {tm:List MV} {m:Mem} {k:KS} {r:Out},n ≤ s → ops.toList.drop s = l → l.length ≤ fuel → s ≤ ops.size → xops P E C ops l tm m k = some r →
    ∀ {σ:Sg} {a:Act} {w:World},C.env base w0 σ.x → Rel base w0 σ tm m a w → (∀ tm' m' σ' a' w',k tm' m' = some r → Ext σ σ' → Rel base w0 σ' tm' m' a' w' → Q .normal a' w') → wpAny P .any ops Q fuel (upTo ops.size s) a w
  | [],s,fuel,tm,m,k,r,hn,hl,hf,hs,h,σ,a,w,hX,hR,hK => by
    have hsz:s = ops.size:=by
      have:=List.drop_eq_nil_iff.1 hl
      simp at this
      omega
    have hr:Region.ready .any ops (upTo ops.size s) = []:=by
      apply List.eq_nil_iff_forall_not_mem.2
      intro i hi
      obtain ⟨o,ho,h1,_⟩:=(ready_iff _ _ _).1 hi
      have hlt:=(List.getElem?_eq_some_iff.1 ho).1
      rw [upTo_getD _ _ _ hs,if_pos (by rw [hsz]; simpa using hlt)] at h1
      cases h1
    have hq:=hK _ _ σ _ _ h (Ext.refl σ) hR
    cases fuel with
    | zero => exact ⟨hr,hq⟩
    | succ fuel => exact ⟨fun _ => hq,fun i hi => by rw [hr] at hi; cases hi⟩
  | o :: l,s,fuel,tm,m,k,r,hn,hl,hf,hs,h,σ,a,w,hX,hR,hK => by
    have hedge:edgesOk ops.toList 0 = true:=by unfold tailOk at ht; simp only [Bool.and_eq_true] at ht; exact ht.1.1.1
    obtain ⟨fuel,rfl⟩:∃ f,fuel = f + 1:=⟨fuel - 1,by simp at hf; omega⟩
    have hos:ops.toList[s]? = some o:=by
      have:=congrArg (fun l => l[0]?) hl
      simpa using this
    have hss:s < ops.size:=by have:=(List.getElem?_eq_some_iff.1 hos).1; simpa using this
    have hl':ops.toList.drop (s + 1) = l:=by
      have:=congrArg List.tail hl
      simpa using this
    have hmem:∀ i,i ∈ Region.ready .any ops (upTo ops.size s) → i = s:=by
      intro i hi
      obtain ⟨o',ho',h1,_⟩:=(ready_iff _ _ _).1 hi
      rw [upTo_getD _ _ _ hs] at h1
      split at h1
      · cases h1
      · rename_i hge
        rcases Nat.lt_or_ge s i with hlt | hle
        · have:=tail_ready ht (upTo_closed hedge hs) hi (by omega) s hlt
          rw [upTo_getD _ _ _ hs,if_neg (by omega),if_pos hss] at this
          cases this
        · omega
    have hin:s ∈ Region.ready .any ops (upTo ops.size s):=by
      refine (ready_iff _ _ _).2 ⟨o,hos,?_,fun e he => ?_⟩
      · rw [upTo_getD _ _ _ hs,if_neg (by omega),if_pos hss]
      · have:=edges_lt ops.toList 0 s o hedge hos e he
        rw [upTo_getD _ _ _ hs,if_pos (by omega)]
    refine ⟨fun hnil => (by rw [hnil] at hin; cases hin),fun i hi => ?_⟩
    obtain rfl:=hmem i hi
    have hoi:ops[i]? = some o:=by simpa using hos
    have main:=xone_ok hE hC h hX hR (wpAny P .any ops Q fuel ((upTo ops.size i).setIfInBounds i true)) Q (by
      intro tm' m' σ' a' w' h1 h2 h3
      rw [upTo_set _ _ hss]
      exact tail_any hE hC ht l (i + 1) fuel (by omega) hl' (by simp at hf; omega) hss h1 (by rw [h2.x]; exact hX) h3 (fun tm'' m'' σ'' a'' w'' g1 g2 g3 => hK _ _ _ _ _ g1 (h2.trans g2) g3))
    unfold wpOp
    simp only [hoi]
    split
    · rename_i hw
      rw [if_pos hw] at main
      exact .inl main
    · rename_i hw
      rw [if_neg hw] at main
      exact main
theorem append_getD (L:Array Bool) (d j:Nat) (b:Bool):(L ++ Array.replicate d false).getD j b = if j < L.size then L.getD j b else if j < L.size + d then false else b:=by
  simp only [Array.getD_eq_getD_getElem?]
  by_cases h:j < L.size
  · rw [if_pos h,Array.getElem?_append_left h]
  · rw [if_neg h,Array.getElem?_append_right (by omega)]
    split
    · rw [Array.getElem?_replicate,if_pos (by omega)]; rfl
    · rw [Array.getElem?_replicate,if_neg (by omega)]; rfl
theorem head_any {ops:Array Oper} {n:Nat} (ht:tailOk ops.toList n = true) {Q:Exit → Act → World → Prop} {T:Act → World → Prop}
    (hT:∀ fuel a w,ops.size - n ≤ fuel → T a w → wpAny P .any ops Q fuel (upTo ops.size n) a w):∀ (fuel:Nat) (L:Array Bool) (a:Act) (w:World),L.size = n → Closed (ops.toList.take n) (fun j => L.getD j false) →
      wpAny P .any (ops.toList.take n).toArray (fun e a w => match e with | .normal => T a w | e => Q e a w) fuel L a w → wpAny P .any ops Q (fuel + (ops.size - n)) (L ++ Array.replicate (ops.size - n) false) a w:=by
  have hedge:edgesOk ops.toList 0 = true:=by unfold tailOk at ht; simp only [Bool.and_eq_true] at ht; exact ht.1.1.1
  have hnl:n ≤ ops.size:=by unfold tailOk at ht; simp only [Bool.and_eq_true,decide_eq_true_eq] at ht; simpa using ht.1.1.2
  have hgd:=by unfold tailOk at ht; simp only [Bool.and_eq_true,List.all_eq_true] at ht; exact ht.2
  have hget:∀ i,i < n → (ops.toList.take n)[i]? = ops.toList[i]?:=fun i hi => by rw [List.getElem?_take,if_pos hi]
  have hlen:(ops.toList.take n).length = n:=by rw [List.length_take]; simp; omega
  -- all done
  have fin:∀ (fuel:Nat) (L:Array Bool) (a:Act) (w:World),L.size = n → (∀ j,j < n → L.getD j false = true) → ops.size - n ≤ fuel → T a w → wpAny P .any ops Q fuel (L ++ Array.replicate (ops.size - n) false) a w:=by
    intro fuel L a w hsz hall hf h
    have e:L ++ Array.replicate (ops.size - n) false = upTo ops.size n:=by
      apply Array.ext'
      unfold upTo
      simp only [Array.toList_append,Array.toList_replicate]
      congr 1
      apply List.ext_getElem?
      intro j
      by_cases hj:j < n
      · have h1:=hall j hj
        simp only [Array.getD_eq_getD_getElem?] at h1
        rw [Array.getElem?_eq_getElem (by omega)] at h1
        rw [List.getElem?_replicate,if_pos hj,Array.getElem?_toList,Array.getElem?_eq_getElem (by omega)]
        simpa using h1
      · rw [List.getElem?_eq_none (by simp; omega),List.getElem?_eq_none (by simp; omega)]
    rw [e]
    exact hT _ _ _ hf h
  have some_ready:∀ (L:Array Bool),L.size = n → ∀ j,j < n → L.getD j false = false → Region.ready .any (ops.toList.take n).toArray L ≠ []:=by
    intro L hsz j
    induction j using Nat.strongRecOn with
    | _ j ih =>
      intro hj hLj
      obtain ⟨o,ho⟩:∃ o,ops.toList[j]? = some o:=⟨ops.toList[j]'(by simp; omega),List.getElem?_eq_getElem (by simp; omega)⟩
      by_cases hall:∀ e ∈ edgesOf o,L.getD e false = true
      · intro hnil
        have:j ∈ Region.ready .any (ops.toList.take n).toArray L:=(ready_iff _ L j).2 ⟨o,by rw [hget j hj]; exact ho,by simp [Array.getD,hsz,hj] at hLj ⊢; exact hLj,hall⟩
        rw [hnil] at this
        cases this
      · have hex:∃ e,e ∈ edgesOf o ∧ ¬ L.getD e false = true:=Classical.byContradiction fun hne => hall fun e he => Classical.byContradiction fun hh => hne ⟨e,he,hh⟩
        obtain ⟨e,he,hLe⟩:=hex
        have hlt:=edges_lt ops.toList 0 j o hedge ho e he
        exact ih e (by omega) (by omega) (by simpa using hLe)
  have closed2:∀ (L:Array Bool),L.size = n → Closed (ops.toList.take n) (fun j => L.getD j false) → Closed ops.toList (fun j => (L ++ Array.replicate (ops.size - n) false).getD j false):=by
    intro L hsz hcl j o ho hj e he
    simp only [append_getD,hsz] at hj ⊢
    split at hj
    · rename_i hjn
      have h1:=hcl j o (by rw [hget j hjn]; exact ho) hj e he
      have h2:=edges_lt ops.toList 0 j o hedge ho e he
      rw [if_pos (by omega)]
      exact h1
    · split at hj <;> cases hj
  have first:∀ (L:Array Bool),L.size = n → Closed (ops.toList.take n) (fun j => L.getD j false) → ∀ j,j < n → L.getD j false = false → ∀ i ∈ Region.ready .any ops (L ++ Array.replicate (ops.size - n) false),i < n ∧ i ∈ Region.ready .any (ops.toList.take n).toArray L:=by
    intro L hsz hcl j hj hLj i hi
    have hin:i < n:=by
      rcases Nat.lt_or_ge i n with h | h
      · exact h
      · have:=tail_ready ht (closed2 L hsz hcl) hi h j (by omega)
        rw [append_getD,if_pos (by omega),hLj] at this
        cases this
    refine ⟨hin,?_⟩
    obtain ⟨o,ho,h1,h2⟩:=(ready_iff _ _ _).1 hi
    refine (ready_iff _ _ _).2 ⟨o,by rw [hget i hin]; exact ho,?_,fun e he => ?_⟩
    · rw [append_getD,if_pos (by omega)] at h1; exact h1
    · have h3:=h2 e he
      have h4:=edges_lt ops.toList 0 i o hedge ho e he
      rw [append_getD,if_pos (by omega)] at h3; exact h3
  intro fuel
  induction fuel with
  | zero =>
    intro L a w hsz hcl h
    rw [Nat.zero_add]
    refine fin _ L a w hsz (fun j hj => ?_) (Nat.le_refl _) h.2
    cases hLj:L.getD j false with
    | true => rfl
    | false => exact absurd h.1 (some_ready L hsz j hj hLj)
  | succ fuel ih =>
    intro L a w hsz hcl h
    by_cases hall:∀ j,j < n → L.getD j false = true
    · have hr:Region.ready .any (ops.toList.take n).toArray L = []:=by
        apply List.eq_nil_iff_forall_not_mem.2
        intro i hi
        obtain ⟨o,ho,h1,_⟩:=(ready_iff _ _ _).1 hi
        have hlt:=(List.getElem?_eq_some_iff.1 ho).1
        have hlt':i < n:=by rw [← hlen]; exact hlt
        have h2:=hall i hlt'
        simp [Array.getD,hsz,hlt'] at h1 h2
        rw [h1] at h2; cases h2
      exact fin _ L a w hsz hall (by omega) (h.1 hr)
    · obtain ⟨j,hj⟩:=Classical.not_forall.1 hall
      obtain ⟨hj1,hj2⟩:=Classical.not_imp.1 hj
      have hLj:L.getD j false = false:=by simpa using hj2
      have e1:fuel + 1 + (ops.size - n) = (fuel + (ops.size - n)) + 1:=by omega
      rw [e1]
      have hne:=some_ready L hsz j hj1 hLj
      refine ⟨fun hnil => ?_,fun i hi => ?_⟩
      · exfalso
        obtain ⟨i,rest,hr⟩:=List.exists_cons_of_ne_nil hne
        have hi:i ∈ Region.ready .any (ops.toList.take n).toArray L:=by rw [hr]; exact List.mem_cons_self
        obtain ⟨o,ho,h1,h2⟩:=(ready_iff _ _ _).1 hi
        have hlt:i < n:=by rw [← hlen]; exact (List.getElem?_eq_some_iff.1 ho).1
        have:i ∈ Region.ready .any ops (L ++ Array.replicate (ops.size - n) false):=by
          refine (ready_iff _ _ _).2 ⟨o,by rw [← hget i hlt]; exact ho,?_,fun e he => ?_⟩
          · rw [append_getD,if_pos (by omega)]; exact h1
          · have h4:=edges_lt ops.toList 0 i o hedge (by rw [← hget i hlt]; exact ho) e he
            rw [append_getD,if_pos (by omega)]; exact h2 e he
        rw [hnil] at this; cases this
      · obtain ⟨hin,hi'⟩:=first L hsz hcl j hj1 hLj i hi
        have h1:=h.2 i hi'
        obtain ⟨o,ho,_,he⟩:=(ready_iff _ _ _).1 hi'
        have ho2:ops.toList[i]? = some o:=by rw [← hget i hin]; exact ho
        have hcl':Closed (ops.toList.take n) (fun j => (L.setIfInBounds i true).getD j false):=by
          intro x ox hox hx e hee
          have hs2:∀ y,(L.setIfInBounds i true).getD y false = if y = i then true else L.getD y false:=by
            intro y
            by_cases ey:y = i
            · subst ey; simp [Array.getD,hsz,hin]
            · simp only [Array.getD_eq_getD_getElem?,Array.getElem?_setIfInBounds]
              rw [if_neg (Ne.symm ey),if_neg ey]
          simp only [hs2] at hx ⊢
          by_cases ex:x = i
          · subst ex
            rw [ho] at hox
            injection hox with hox
            subst hox
            split
            · rfl
            · exact he e hee
          · rw [if_neg ex] at hx
            split
            · rfl
            · exact hcl x ox hox hx e hee
        have key:∀ a' w',wpAny P .any (ops.toList.take n).toArray (fun e a w => match e with | .normal => T a w | e => Q e a w) fuel (L.setIfInBounds i true) a' w' → wpAny P .any ops Q (fuel + (ops.size - n)) ((L ++ Array.replicate (ops.size - n) false).setIfInBounds i true) a' w':=by
          intro a' w' hh
          have:=ih (L.setIfInBounds i true) a' w' (by simpa using hsz) hcl' hh
          have e2:(L ++ Array.replicate (ops.size - n) false).setIfInBounds i true = L.setIfInBounds i true ++ Array.replicate (ops.size - n) false:=by
            apply Array.ext'
            simp only [Array.toList_setIfInBounds,Array.toList_append]
            rw [List.set_append_left _ _ (by simp; omega)]
          rw [e2]
          exact this
        have h2:=wpOp_mono key h1
        have h3:=wpOp_Q (Q':=Q) (fun e a w hne h => by cases e <;> first | exact absurd rfl hne | exact h) h2
        unfold wpOp at h3 ⊢
        have hoA:(ops.toList.take n).toArray[i]? = some o:=by simpa using ho
        have hoB:ops[i]? = some o:=by simpa using ho2
        simp only [hoA] at h3
        simp only [hoB]
        have hwan:Region.wanted o (yielded (ops.toList.take n).toArray a.tmps) = Region.wanted o (yielded ops a.tmps):=by
          unfold Region.wanted
          cases hg:o.guard with
          | none => rfl
          | some p =>
            obtain ⟨jg,want⟩:=p
            have hjg:=hgd o (List.mem_of_getElem? ho)
            rw [hg] at hjg
            simp only [decide_eq_true_eq] at hjg
            have:(ops.toList.take n).toArray[jg]? = ops[jg]?:=by
              rw [List.getElem?_toArray,hget jg hjg,Array.getElem?_toList]
            simp only [yielded,this]
        rw [hwan] at h3
        exact h3
def xtail (P:Program) (E:Eqs) (C:Ctx) (ops:Array Oper) (n:Nat) (tm:List MV) (m:Mem) (k:KS):Option Out :=
  bif tailOk ops.toList n then xdraw P E C (ops.toList.take n).toArray tm m (fun tm m => xops P E C ops (ops.toList.drop n) tm m k) else none
theorem tail_ok (hE:EqOk P E) (hC:COk P C) (hm:P.follows .mixedOrders = true) {id n:Nat} {ops:Array Oper} {tm:List MV} {m:Mem} {k:KS} {r:Out} (h:xtail P E C ops n tm m k = some r)
    {σ:Sg} {a:Act} {w:World} (hX:C.env base w0 σ.x) (hR:Rel base w0 σ tm m a w) (Q:Exit → Act → World → Prop)
    (hK:∀ tm' m' σ' a' w',k tm' m' = some r → Ext σ σ' → Rel base w0 σ' tm' m' a' w' → Q .normal a' w'):(Code.region id ops true).wp P Q a w:=by
  unfold xtail at h
  cases ht:tailOk ops.toList n with
  | false => rw [ht] at h; cases h
  | true =>
  rw [ht] at h
  simp only [cond_true] at h
  have hnl:n ≤ ops.size:=by have:=ht; unfold tailOk at this; simp only [Bool.and_eq_true,decide_eq_true_eq] at this; simpa using this.1.1.2
  refine wp_region_any hm ?_
  have hd:=draw_any hE hC h hX hR (fun e a w => match e with
    | .normal => (∃ tm' m' σ',Ext σ σ' ∧ Rel base w0 σ' tm' m' a w ∧ xops P E C ops (ops.toList.drop n) tm' m' k = some r)
    | e => Q e a w) (fun tm' m' σ' a' w' h1 h2 h3 => ⟨tm',m',σ',h2,h3,h1⟩)
  have hsz:(ops.toList.take n).toArray.size = n:=by simp; omega
  rw [hsz] at hd
  have hh:=head_any (P:=P) (Q:=Q) ht (T:=fun a w => ∃ tm' m' σ',Ext σ σ' ∧ Rel base w0 σ' tm' m' a w ∧ xops P E C ops (ops.toList.drop n) tm' m' k = some r) (fun fuel a w hf ⟨tm',m',σ',h1,h2,h3⟩ =>
    tail_any hE hC ht _ n fuel (Nat.le_refl _) rfl (by rw [List.length_drop]; simpa using hf) hnl h3 (by rw [h1.x]; exact hX) h2 (fun tm'' m'' σ'' a'' w'' g1 g2 g3 => hK _ _ _ _ _ g1 (h1.trans g2) g3)) n (Array.replicate n false) a { w with drawn:=w.drawn + 1 } (by simp) (by
      intro j o ho hj
      simp only [Array.getD_eq_getD_getElem?,Array.getElem?_replicate] at hj
      split at hj <;> cases hj) hd
  have e1:n + (ops.size - n) = ops.size:=by omega
  have e2:Array.replicate n false ++ Array.replicate (ops.size - n) false = Array.replicate ops.size false:=by
    apply Array.ext'
    simp only [Array.toList_append,Array.toList_replicate,List.replicate_append_replicate]
    rw [e1]
  rw [e1,e2] at hh
  exact hh
variable {X:Env}
theorem XN.of_tail {n0 d:Nat} (hE:EqOk P E) (hC:COk P C) (hm:P.follows .mixedOrders = true) {K rs:List Nat} {id:Nat} {ops:Array Oper} {tm tm':List MV} {m m':Mem} {S:XE → List MV → Mem → Prop}
    (h:∀ k:KE,xtail P E C ops d tm m (nk n0 K rs k .normal) = k .normal tm' m') (hS:S .normal tm' m'):XN P C.env n0 (.region id ops true) tm m S:=by
  intro base w0 σ a w Q hX hR hK
  refine tail_ok hE hC hm (n:=d) (k:=nk n0 K rs (fun e1 t1 m1 => open Classical in if e1 = .normal ∧ t1 = tm' ∧ m1 = m' then some (.val undef,[]) else none) .normal) (r:=(.val undef,[])) (by rw [h]; simp) hX hR Q ?_
  intro t1 m1 σ' a' w' h1 h2 h3
  unfold nk at h1
  simp only [fl_eq] at h1
  cases hc:normChk n0 (memb K) rs t1 m1 with
  | false => rw [hc] at h1; cases h1
  | true =>
    rw [hc] at h1
    simp only [cond_true] at h1
    split at h1
    · rename_i hh
      obtain ⟨_,ht,hmm⟩:=hh
      obtain ⟨τ,g1,g2⟩:=h3.norm hc
      rw [ht,hmm] at g2
      exact hK _ _ _ _ _ _ hS ((h2.n n0).trans g1) g2
    · cases h1
end
theorem RVs.turn {σ:Sg}:∀ {l:List MV} {us:List Value} (k:Nat) {x y:MV},RVs σ l us → l[k]? = some y → (∀ u,RV σ y u → RV σ x u) → RVs σ (l.set k x) us
  | [],us,k,x,y,h,hk,hx => by simp at hk
  | z :: l,us,0,x,y,h,hk,hx => by
    simp only [RVs] at h
    obtain ⟨u,r,rfl,h1,h2⟩:=h
    simp only [List.getElem?_cons_zero,Option.some.injEq] at hk
    subst hk
    simp only [List.set_cons_zero,RVs]
    exact ⟨u,r,rfl,hx u h1,h2⟩
  | z :: l,us,k + 1,x,y,h,hk,hx => by
    simp only [RVs] at h
    obtain ⟨u,r,rfl,h1,h2⟩:=h
    simp only [List.getElem?_cons_succ] at hk
    simp only [List.set_cons_succ,RVs]
    exact ⟨u,r,rfl,h1,RVs.turn k h2 hk hx⟩
section
variable {P:Program} {E:Eqs} {C:Ctx} {X:Env} {base:Bs} {w0:World}
theorem RM.none {σ:Sg} {m:Mem} {w:World} (h:RM base w0 σ m w):σ m.length = none:=by
  cases hs:σ m.length with
  | none => rfl
  | some g =>
    obtain ⟨k,hk⟩:=h.dom _ g hs
    have:=(List.getElem?_eq_some_iff.1 hk).1
    omega
theorem RM.more {σ τ:Sg} {m:Mem} {w:World} (h:RM base w0 σ m w) {k:Blk} (hx:Ext σ τ) (hb:∀ b,b ≠ m.length → τ b = σ b)
    (hn:∀ g,τ m.length = some g → k.ro = true ∧ (k.cells ≠ [] → ¬ Own base g) ∧ ∃ pre cs rest,AtH w g k (pre ++ (cs ++ rest)) ∧ RVs τ k.cells cs ∧ (cs ++ rest).length = τ.κ m.length ∧ pre.length = τ.off m.length):RM base w0 τ (m ++ [some k]) w:=by
  have key:∀ (b:Nat) (k':Blk),(m ++ [some k]:Mem)[b]? = some (some k') → (b < m.length ∧ m[b]? = some (some k')) ∨ (b = m.length ∧ k' = k):=by
    intro b k' hk
    rcases Nat.lt_or_ge b m.length with hl | hl
    · rw [List.getElem?_append_left hl] at hk
      exact .inl ⟨hl,hk⟩
    · rw [List.getElem?_append_right hl] at hk
      have h0:b - m.length = 0:=by
        have:=(List.getElem?_eq_some_iff.1 hk).1
        simp at this; omega
      rw [h0] at hk
      simp only [List.getElem?_cons_zero,Option.some.injEq] at hk
      exact .inr ⟨by omega,hk.symm⟩
  have old:∀ b g,b < m.length → τ b = some g → σ b = some g:=fun b g hlt hg => by rw [← hb b (by omega)]; exact hg
  refine ⟨fun b k' g hk hg => ?_,fun b c g k1 k2 h1 h2 r1 r2 n1 n2 g1 g2 => ?_,fun b g hg => ?_,fun b g k' hk hg hr => ?_,fun b g k' hk hg hr hne => ?_,h.bel,h.base⟩
  · rcases key b k' hk with ⟨hlt,hk'⟩ | ⟨rfl,rfl⟩
    · have hg':=old b g hlt hg
      obtain ⟨pre,cs,rest,d1,d2,d3,d4,d5⟩:=h.blk b k' g hk' hg'
      obtain ⟨_,e2,e3⟩:=hx.to b g hg'
      exact ⟨pre,cs,rest,d1,RVs.ext hx _ _ d2,by rw [e2]; exact d3,by rw [e3]; exact d4,d5⟩
    · obtain ⟨hro,_,pre,cs,rest,d1,d2,d3,d4⟩:=hn g hg
      exact ⟨pre,cs,rest,d1,d2,d3,d4,fun hh => by rw [hro] at hh; cases hh⟩
  · rcases key b k1 h1 with ⟨hl1,h1'⟩ | ⟨rfl,rfl⟩
    · rcases key c k2 h2 with ⟨hl2,h2'⟩ | ⟨rfl,rfl⟩
      · exact h.inj b c g k1 k2 h1' h2' r1 r2 n1 n2 (old b g hl1 g1) (old c g hl2 g2)
      · rw [(hn g g2).1] at r2; cases r2
    · rw [(hn g g1).1] at r1; cases r1
  · by_cases e:b = m.length
    · subst e
      exact ⟨k,by rw [List.getElem?_append_right (Nat.le_refl _),Nat.sub_self]; rfl⟩
    · rw [hb b e] at hg
      obtain ⟨k',hk'⟩:=h.dom b g hg
      have hlt:=(List.getElem?_eq_some_iff.1 hk').1
      exact ⟨k',by rw [List.getElem?_append_left hlt]; exact hk'⟩
  · rcases key b k' hk with ⟨hlt,hk'⟩ | ⟨rfl,rfl⟩
    · exact h.lo b g k' hk' (old b g hlt hg) hr
    · rw [(hn g hg).1] at hr; cases hr
  · rcases key b k' hk with ⟨hlt,hk'⟩ | ⟨rfl,rfl⟩
    · exact h.hi b g k' hk' (old b g hlt hg) hr hne
    · exact (hn g hg).2.1 hne
theorem XN.grow {n:Nat} {c:Code} {tm tm':List MV} {m m':Mem} {S:XE → List MV → Mem → Prop} (h:∀ base w0 σ a w,Rel base w0 σ tm m a w → ∃ τ,ExtN n σ τ ∧ Rel base w0 τ tm' m' a w) (hk:XN P X n c tm' m' S):XN P X n c tm m S:=by
  intro base w0 σ a w Q hX hR hK
  obtain ⟨τ,g1,g2⟩:=h base w0 σ a w hR
  exact hk base w0 τ a w Q (by rw [g1.x]; exact hX) g2 (fun e t m σ' a' w' hs he hr => hK e t m σ' a' w' hs (g1.trans he) hr)
theorem XN.nilgv {n:Nat} (t s ty:Nat) (sh:List (Option IntKind)) {c:Code} {tm:List MV} {m:Mem} {S:XE → List MV → Mem → Prop} (ht:tm[t]? = some (.val (.slice none 0 0))) (hk:XN P X n c (tm.set t (.gv m.length 0 s)) (m ++ [some ⟨.recs sh [],ty⟩]) S):XN P X n c tm m S:=by
  refine XN.grow (fun base w0 σ a w hR => ⟨σ,ExtN.refl n σ,hR.df,?_,?_⟩) hk
  · refine RVs.turn t hR.tm ht (fun u h => ?_)
    simp only [RV] at h ⊢
    subst h
    exact ⟨none,0,rfl,Nat.le_refl _,fun _ => rfl,fun h => absurd h (Nat.lt_irrefl 0)⟩
  · refine hR.mem.more (Ext.refl σ) (fun _ _ => rfl) (fun g hg => ?_)
    rw [hR.mem.none] at hg; cases hg
theorem rowsV_app (sh:List (Option IntKind)) (l l2:List (List Int)):rowsV sh (l ++ l2) = rowsV sh l ++ rowsV sh l2:=by unfold rowsV; rw [List.flatMap_append]
theorem XN.sub {n:Nat} (t b i k s:Nat) {ty:Nat} {sh:List (Option IntKind)} {l:List (List Int)} {c:Code} {tm:List MV} {m:Mem} {S:XE → List MV → Mem → Prop} (ht:tm[t]? = some (.va b i k s)) (hs:sh.length = s) (hb:m[b]? = some (some ⟨.rrecs sh l,ty⟩)) (hik:i + k ≤ l.length)
    (hk:XN P X n c (tm.set t (.va m.length 0 k s)) (m ++ [some ⟨.rrecs sh ((l.drop i).take k),ty⟩]) S) (hnm:n ≤ m.length):XN P X n c tm m S:=by
  refine XN.grow (fun base w0 σ a w hR => ?_) hk
  have hnone:=hR.mem.none
  obtain ⟨u,hu1,hu2⟩:=RVs.get t hR.tm ht
  have hu2':=hu2
  simp only [RV] at hu2'
  obtain ⟨A,cc,rfl,hle,hA⟩:=hu2'
  rcases Nat.eq_zero_or_pos k with h0 | hp
  · subst h0
    refine ⟨σ,ExtN.refl n σ,hR.df,?_,?_⟩
    · refine RVs.turn t hR.tm ht (fun u h => ?_)
      simp only [RV] at h ⊢
      obtain ⟨A,c,e1,e2,_⟩:=h
      exact ⟨A,c,e1,e2,fun h => absurd h (Nat.lt_irrefl 0)⟩
    · refine hR.mem.more (Ext.refl σ) (fun _ _ => rfl) (fun g hg => ?_)
      rw [hnone] at hg; cases hg
  · obtain ⟨g,hg,hAg⟩:=hA hp
    obtain ⟨pre,cs,rest,d1,d2,d3,d4,_⟩:=hR.mem.blk b _ g hb hg
    have hcs:=rows_inv d2
    have hl:l = l.take i ++ ((l.drop i).take k ++ (l.drop i).drop k):=by rw [List.take_append_drop,List.take_append_drop]
    have hcs2:cs = rowsV sh (l.take i) ++ (rowsV sh ((l.drop i).take k) ++ rowsV sh ((l.drop i).drop k)):=by
      rw [hcs,← rowsV_app,← rowsV_app,← hl]
    have hli:(rowsV sh (l.take i)).length = i * s:=by rw [rowsV_len,hs,List.length_take,Nat.min_eq_left (by omega)]
    let τ:Sg:=⟨fun c => if c = m.length then some g else σ c,fun c => if c = m.length then (rowsV sh ((l.drop i).take k) ++ (rowsV sh ((l.drop i).drop k) ++ rest)).length else σ.κ c,σ.x,fun c => if c = m.length then σ.off b + i * s else σ.off c⟩
    have t1:τ m.length = some g:=by show (if m.length = m.length then some g else σ m.length) = some g; rw [if_pos rfl]
    have t2:∀ c,c ≠ m.length → τ c = σ c:=fun c hc => by show (if c = m.length then some g else σ c) = σ c; rw [if_neg hc]
    have hx:Ext σ τ:=by
      refine ⟨rfl,fun c x hc => ?_⟩
      have hne:c ≠ m.length:=by intro e; subst e; rw [hnone] at hc; cases hc
      refine ⟨by rw [t2 c hne]; exact hc,?_,?_⟩
      · show (if c = m.length then _ else σ.κ c) = σ.κ c; rw [if_neg hne]
      · show (if c = m.length then _ else σ.off c) = σ.off c; rw [if_neg hne]
    have toff:τ.off m.length = σ.off b + i * s:=by show (if m.length = m.length then _ else _) = _; rw [if_pos rfl]
    have tκ:τ.κ m.length = (rowsV sh ((l.drop i).take k) ++ (rowsV sh ((l.drop i).drop k) ++ rest)).length:=by show (if m.length = m.length then _ else _) = _; rw [if_pos rfl]
    refine ⟨τ,hx.n n,hR.df,?_,?_⟩
    · refine RVs.turn t (RVs.ext hx _ _ hR.tm) ht (fun u h => ?_)
      simp only [RV] at h ⊢
      obtain ⟨A',c',e1,e2,e3⟩:=h
      refine ⟨A',c',e1,e2,fun h => ?_⟩
      obtain ⟨g',f1,f2⟩:=e3 h
      have hbn:b ≠ m.length:=by intro e; rw [e,hnone] at hg; cases hg
      rw [t2 b hbn,hg] at f1
      injection f1 with f1; subst f1
      refine ⟨g,t1,?_⟩
      rw [f2,toff,(hx.to b g hg).2.2]
      simp
    · refine hR.mem.more hx t2 (fun g' hg' => ?_)
      rw [t1] at hg'
      injection hg' with hg'; subst hg'
      refine ⟨rfl,fun _ => ?_,pre ++ rowsV sh (l.take i),rowsV sh ((l.drop i).take k),rowsV sh ((l.drop i).drop k) ++ rest,?_,rows_RVs τ sh _,tκ.symm,?_⟩
      · refine hR.mem.hi b g _ hb hg rfl (fun e => ?_)
        rename_i hne
        have h1:(l.flatMap (recC sh 0)) = []:=e
        apply hne
        show ((l.drop i).take k).flatMap (recC sh 0) = []
        have h2:=congrArg List.length h1
        have h3:=recs_len sh l
        rw [h2] at h3
        simp only [List.length_nil] at h3
        have h4:l.length ≠ 0:=by omega
        have h5:sh.length = 0:=by
          rcases Nat.eq_zero_or_pos sh.length with h | h
          · exact h
          · have:=Nat.mul_pos (Nat.pos_of_ne_zero h4) h; omega
        exact List.length_eq_zero_iff.1 (by rw [recs_len,h5,Nat.mul_zero])
      · obtain ⟨ty',fr,f1,f2⟩:=d1
        refine ⟨ty',fr,?_,fun h => by cases h⟩
        rw [f1,hcs2]
        simp [List.append_assoc]
      · rw [List.length_append,hli,toff,d4]
end
end Go.Proofs.Ytppklhfiajjhmaa.Y
end
