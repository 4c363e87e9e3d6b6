/- What is proved: texts of the law TilesShow, joined by program. Conditions: none but those in each statement. -/
import Derived.Test.YtppklhfiajjhmaaZTilesShow3
import Derived.Test.YtppklhfiajjhmaaZTilesShow13
section
namespace Go.Proofs.Ytppklhfiajjhmaa.Ti
open Go Go.RowKit Go.Proofs.Ytppklhfiajjhmaa.Y Go.Proofs.Ytppklhfiajjhmaa.PPT Go.Proofs.YtppklhfiajjhmaaW.PrintWords Go.Proofs.YtppklhfiajjhmaaW.PrintLast
set_option linter.unusedVariables false
set_option linter.unusedSimpArgs false
abbrev iv (n:Int):MV:=.val (.int .i64 n)
def dec37 (r:List Int):S37:=⟨r.getD 0 0,r.getD 1 0,r.getD 2 0,r.getD 3 0⟩
def enc37 (x:S37):List Int:=[x.f0,x.f1,x.f2,x.f3]
def dec39 (r:List Int):S39:=⟨r.getD 0 0,r.getD 1 0,⟨r.getD 2 0,r.getD 3 0,r.getD 4 0,r.getD 5 0⟩,⟨r.getD 6 0,r.getD 7 0,r.getD 8 0,r.getD 9 0⟩,⟨r.getD 10 0,r.getD 11 0,r.getD 12 0,r.getD 13 0⟩,r.getD 14 0⟩
theorem kd39 (w:World) (r:List Int):k39.K w (dec39 r) (recV (i64s 15) 0 r) :=
 ⟨[_],_,rfl,rfl,⟨[_],_,rfl,rfl,⟨[_,_,_,_],_,rfl,⟨[_],_,rfl,rfl,⟨[_],_,rfl,rfl,⟨[_],_,rfl,rfl,rfl⟩⟩⟩,⟨[_,_,_,_],_,rfl,⟨[_],_,rfl,rfl,⟨[_],_,rfl,rfl,⟨[_],_,rfl,rfl,rfl⟩⟩⟩,⟨[_,_,_,_],_,rfl,⟨[_],_,rfl,rfl,⟨[_],_,rfl,rfl,⟨[_],_,rfl,rfl,rfl⟩⟩⟩,rfl⟩⟩⟩⟩⟩
theorem items_C {w:World} {u:Value} {l:List (List Int)} {ok:Nat → Prop} (h:SliceAt w u (i64s 15) l ok) (hl:l.length ≤ 1000) :
  ∃ A c,u = .slice A (l.map dec39).length c ∧ (l.map dec39).length ≤ c ∧ Kd.C k39 w A (l.map dec39).length (l.map dec39):=by
 obtain ⟨A,c,h1,h2,h3⟩:=h
 refine ⟨A,c,by rw [h1,List.length_map],by rw [List.length_map]; exact h2,rfl,by rw [List.length_map]; omega,fun hn => ?_⟩
 rw [List.length_map] at hn
 obtain ⟨ad,e1,_,e3⟩:=h3 hn
 refine ⟨ad,e1,fun j p hj => ?_⟩
 rw [List.getElem?_map] at hj
 obtain ⟨r,hr,rfl⟩:=Option.map_eq_some_iff.1 hj
 have hjl:j < l.length:=(List.getElem?_eq_some_iff.1 hr).1
 have hg:l.getD j [] = r:=by rw [List.getD_eq_getElem?_getD,hr]; rfl
 refine ⟨recV (i64s 15) 0 r,rfl,kd39 w r,fun i v hv => ?_⟩
 exact e3 j hjl i v (by rw [hg]; exact hv)
def T0:Nat → Option (List (List Int)):=fun _ => none
theorem T0_out (sh:List (Option IntKind)) (B:Bs) (w:World) (x:Nat → Value):outside sh T0 B w x:=by intro i t h; cases h
section
variable {T:Nat → Option (List (List Int))} {X:Env}
def ownerG (T:Nat → Option (List (List Int))):List MV → (Nat → Option Blk) → KV → Option Out:=fun args rd k => match args with
 | [a,.val (.int .i64 x),.val (.int .i64 y)] => match rowsOf T (i64s 15) rd a with
  | some l => bif decide (l.length ≤ 1000) then (match owner_Of.f 1100 (l.map dec39) x y with
   | some (n,b) => k (.tup [iv n,.val (.bool b)])
   | none => none) else none
  | none => none
 | _ => none
theorem ownerG_ok (hT:∀ B w x,X B w x → outside (i64s 15) T B w x):QOk Try.prog X 51 (ownerG T):=by
 intro args rd k r hG
 unfold ownerG at hG
 split at hG
 ·rename_i a x y
  split at hG
  ·rename_i l hl
   cases hd:decide (l.length ≤ 1000) with
   | false => rw [hd] at hG; simp at hG
   | true =>
   rw [hd] at hG
   simp only [cond_true] at hG
   split at hG
   ·rename_i n b hf
    refine ⟨_,hG,fun base w0 σ us w hX hb hn hu hr => ?_⟩
    simp only [RVs] at hu
    obtain ⟨u0,r0,rfl,h0,u1,r1,rfl,h1,u2,r2,rfl,h2,rfl⟩:=hu
    have e1:=h1.val_inv
    have e2:=h2.val_inv
    subst e1; subst e2
    obtain ⟨A,c,rfl,hc,hC⟩:=items_C (rowsOf_ok hl (hT _ _ _ hX) hb h0 (fun b k hb' hk => hr b k (reach_l (by simp [refsL,hb'])) hk)) (of_decide_eq_true hd)
    refine Calls.mono (owner_Of.calls 1100 A c (l.map dec39) x y n b w hC hc hf) ?_
    rintro e w' ⟨rfl,hB⟩
    exact ⟨_,rfl,by simp [RV,RVs],hB⟩
   ·cases hG
  ·cases hG
 ·cases hG
theorem rects_own {w w':World} {base:Nat} {ok:Nat → Prop} {v:Value} {r:List S37} (h:Kd.R k37 37 w' base ok v r):w'.ownsRow base 37 4 v r.length (rowsV (i64s 4) (r.map enc37)):=by
 obtain ⟨_,inner,ho,hr⟩:=h
 have e:inner = rowsV (i64s 4) (r.map enc37):=by
  obtain ⟨h1,h2⟩:=hr
  apply List.ext_getElem?
  intro i
  have hlen:(rowsV (i64s 4) (r.map enc37)).length = r.length * 4:=by rw [rowsV_len]; simp [i64s]
  have h1':inner.length = r.length * 4:=h1
  by_cases hi:i < r.length * 4
  ·have hj:i / 4 < r.length:=by omega
   have h3:=h2 (i / 4) r[i / 4] (List.getElem?_eq_getElem hj)
   have h4:(inner.drop (i / 4 * 4)).take 4 = _:=k37_open (k37.K_of_M h3)
   have h5:inner[i]? = ((inner.drop (i / 4 * 4)).take 4)[i % 4]?:=by
    rw [List.getElem?_take,if_pos (Nat.mod_lt _ (by omega)),List.getElem?_drop]
    congr 1
    omega
   have h6:(rowsV (i64s 4) (r.map enc37))[i / 4 * 4 + i % 4]? = some ((recV (i64s 4) 0 (enc37 r[i / 4]))[i % 4]'(by rw [recV_len]; exact Nat.mod_lt _ (by simp [i64s]))):=by
    have:=rowsV_get (sh:=i64s 4) (l:=r.map enc37) (j:=i / 4) (i:=i % 4) (u:=(recV (i64s 4) 0 (enc37 r[i / 4]))[i % 4]'(by rw [recV_len]; exact Nat.mod_lt _ (by simp [i64s]))) (by simpa using hj)
     (by
      have eg:(r.map enc37).getD (i / 4) [] = enc37 r[i / 4]:=by simp [List.getD_eq_getElem?_getD,hj]
      rw [eg,List.getElem?_eq_getElem])
    simpa [i64s] using this
   rw [h5,h4]
   have e2:i / 4 * 4 + i % 4 = i:=by omega
   rw [e2] at h6
   rw [h6]
   have e3:recV (i64s 4) 0 (enc37 r[i / 4]) = [.int .i64 r[i / 4].f0,.int .i64 r[i / 4].f1,.int .i64 r[i / 4].f2,.int .i64 r[i / 4].f3]:=rfl
   rw [← List.getElem?_eq_getElem,e3]
  ·rw [List.getElem?_eq_none (by omega),List.getElem?_eq_none (by omega)]
 rw [← e]
 exact ho
end
def meetG:List MV → Option MV
 | [.agg [.val (.int .i64 a0),.val (.int .i64 a1),.val (.int .i64 a2),.val (.int .i64 a3)],.agg [.val (.int .i64 b0),.val (.int .i64 b1),.val (.int .i64 b2),.val (.int .i64 b3)]] => match rect_Meet.f a0 a1 a2 a3 b0 b1 b2 b3 with
  | some (r0,r1,r2,r3) => some (.agg [iv r0,iv r1,iv r2,iv r3])
  | none => none
 | _ => none
theorem meetG_ok {X:Env}:QOk Try.prog X 53 (toQ meetG):=by
 refine Q_of (fun args v h => ?_)
 unfold meetG at h
 split at h
 ·split at h
  ·rename_i hf
   injection h with h; subst h
   exact ⟨_,_,rfl,rfl,fun w => rect_Meet.calls _ _ _ _ _ _ _ _ _ _ _ _ w hf⟩
  ·cases h
 ·cases h
def emptyG:List MV → Option MV
 | [.agg [.val (.int .i64 a0),.val (.int .i64 a1),.val (.int .i64 a2),.val (.int .i64 a3)]] => match rect_Empty.f a0 a1 a2 a3 with
  | some r => some (.val (.bool r))
  | none => none
 | _ => none
theorem emptyG_ok {X:Env}:QOk Try.prog X 55 (toQ emptyG):=by
 refine Q_of (fun args v h => ?_)
 unfold emptyG at h
 split at h
 ·split at h
  ·rename_i hf
   injection h with h; subst h
   exact ⟨_,_,rfl,rfl,fun w => rect_Empty.calls _ _ _ _ _ w hf⟩
  ·cases h
 ·cases h
end Go.Proofs.Ytppklhfiajjhmaa.Ti
end
