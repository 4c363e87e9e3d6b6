/- What is proved: texts of the law TilesShow, joined by program. Conditions: none but those in each statement. -/
import Derived.Test.YtppklhfiajjhmaaZTilesShow14
import Derived.Test.YtppklhfiajjhmaaZTilesShow4
import Derived.Test.YtppklhfiajjhmaaZTilesShow16
import Derived.Test.YtppklhfiajjhmaaZTilesShow3
section
namespace Go.Proofs.Ytppklhfiajjhmaa.Ti
open Go Go.RowKit Go.Proofs.Ytppklhfiajjhmaa.Y Go.Proofs.Ytppklhfiajjhmaa.PPT Go.Proofs.YtppklhfiajjhmaaW.PrintWords Go.Proofs.YtppklhfiajjhmaaW.PrintLast
set_option linter.unusedVariables false
set_option linter.unusedSimpArgs false
theorem lays52:Go.Proofs.SlLaysE0.n41 Try.prog ⟨fun | 41 => 52 | n => n,fun | 22 => 22 | 23 => 39 | 4 => 4 | n => n,fun | n => n⟩:={
 mixed:=by kernel_rfl
 f41:=⟨Try.f52.name,by decide,Try.func52.trans (congrArg some (by kernel_rfl))⟩
 t4:=Try.underlying4
 a4:=Try.isAgg4
 z4:=Try.sizeOf4
 v4:=Try.zeroValue4
 t22:=Try.underlying22
 a22:=Try.isAgg22
 z22:=Try.sizeOf22
 v22:=Try.zeroValue22 }
theorem info39:∃ i z,Try.prog.info? 39 = some i ∧ i.zero = some z ∧ i.size = 15 ∧ i.bytes = 120 ∧ z.cells.size = 15:=by
 have h1:(Try.prog.info? 39).map (fun i => (i.size,i.bytes)) = some (15,120):=by kernel_rfl
 have h2:zeroCells Try.prog 39 = some (List.replicate 15 (.int .i64 0)):=by kernel_rfl
 obtain ⟨i,hi,he⟩:=Option.map_eq_some_iff.1 h1
 simp only [Prod.mk.injEq] at he
 unfold zeroCells at h2
 rw [hi] at h2
 simp only [Option.bind_some] at h2
 obtain ⟨z,hz,hz2⟩:=Option.map_eq_some_iff.1 h2
 refine ⟨i,z,hi,hz,he.1,he.2,?_⟩
 have:=congrArg List.length hz2
 simpa using this
def cloneG (T:Nat → Option (List (List Int))):List MV → (Nat → Option Blk) → (Blk → (Nat → MV) → Option Out) → Option Out:=fun args rd k => match args with
 | [a] => match rowsOf T (i64s 15) rd a with
  | some l => bif decide (0 < l.length ∧ l.length ≤ 1000) then k ⟨.recs (i64s 15) l,39⟩ (fun b => .va b 0 l.length 15) else none
  | none => none
 | _ => none
theorem cloneG_ok {T:Nat → Option (List (List Int))} {X:Env} (hT:∀ B w x,X B w x → outside (i64s 15) T B w x):NOk Try.prog X 52 (cloneG T):=by
 intro args rd k r hG
 unfold cloneG at hG
 split at hG
 ·rename_i a
  split at hG
  ·rename_i l hl
   cases hd:decide (0 < l.length ∧ l.length ≤ 1000) with
   | false => rw [hd] at hG; simp at hG
   | true =>
   rw [hd] at hG
   simp only [cond_true] at hG
   simp only [decide_eq_true_eq] at hd
   refine ⟨_,_,hG,rfl,fun base w0 σ us w hX hb hn hu hr => ?_⟩
   simp only [RVs] at hu
   obtain ⟨u0,r0,rfl,h0,rfl⟩:=hu
   obtain ⟨A,c,rfl,hc,hC⟩:=rowsOf_ok hl (hT _ _ _ hX) hb h0 (fun b k hb' hk => hr b k (reach_l (by simp [refsL,hb'])) hk)
   obtain ⟨ad,rfl,⟨_,hsp⟩,hcell⟩:=hC hd.1
   obtain ⟨b,off,spot⟩:=ad
   simp only at hsp
   subst hsp
   obtain ⟨i,z,hi,hz,hs,hby,hzs⟩:=info39
   have hlen:=rowsV_len (i64s 15) l
   refine Calls.mono (AnyE.slices_Clone lays52 i z 15 120 hi hz hs hby hzs (by omega) (fun w => run_size (by kernel_rfl) w) b off l.length c (rowsV (i64s 15) l) w (by rw [hlen]; simp [i64s]) (by simp [maxLen]; omega) (by omega) ?_ (rowsV_one _ _)) ?_
   ·intro j u hj
    have hlt:=(List.getElem?_eq_some_iff.1 hj).1
    rw [hlen] at hlt
    simp only [i64s,List.length_replicate] at hlt
    have hq:j / 15 < l.length:=by omega
    have hrl:j % 15 < (recV (i64s 15) 0 (l.getD (j / 15) [])).length:=by rw [recV_len]; simp only [i64s,List.length_replicate]; omega
    have h1:=hcell (j / 15) hq (j % 15) _ (List.getElem?_eq_getElem hrl)
    have h2:=rowsV_get hq (List.getElem?_eq_getElem hrl)
    simp only [i64s,List.length_replicate] at h1 h2
    rw [show j / 15 * 15 + j % 15 = j by omega] at h1 h2
    rw [addr_add] at h1
    simp only [i64s] at hj
    rw [hj] at h2
    simp only [Option.some.injEq] at h2
    rw [h1,h2]
   ·rintro e w' ⟨v,rfl,ho,_,hB⟩
    exact ⟨v,rfl,fresh_own ho rfl rfl,hB⟩
  ·cases hG
 ·cases hG
theorem ints_own {w':World} {base:Nat} {ok:Nat → Prop} {v:Value} {r:List Int} (h:Kd.R (Kd.int .i64) 2 w' base ok v r):w'.ownsRow base 2 1 v r.length (rowsV (i64s 1) (r.map fun v => [v])):=by
 obtain ⟨_,inner,ho,hr⟩:=h
 have e:inner = rowsV (i64s 1) (r.map fun v => [v]):=by
  obtain ⟨h1,h2⟩:=hr
  apply List.ext_getElem?
  intro i
  have hlen:(rowsV (i64s 1) (r.map fun v => [v])).length = r.length:=by rw [rowsV_len]; simp [i64s]
  have h1':inner.length = r.length * 1:=h1
  by_cases hi:i < r.length
  ·have h3:=h2 i r[i] (List.getElem?_eq_getElem hi)
   have h4:(inner.drop (i * 1)).take 1 = [.int .i64 r[i]]:=(Kd.int .i64).K_of_M h3
   have h5:inner[i]? = ((inner.drop (i * 1)).take 1)[0]?:=by
    rw [List.getElem?_take,if_pos (by omega),List.getElem?_drop]
    congr 1
    omega
   have h6:=rowsV_get (sh:=i64s 1) (l:=r.map fun v => [v]) (j:=i) (i:=0) (u:=.int .i64 r[i]) (by simpa using hi) (by
    have eg:(r.map fun v => [v]).getD i [] = [r[i]]:=by simp [List.getD_eq_getElem?_getD,hi]
    rw [eg]; rfl)
   rw [h5,h4]
   have:i * (i64s 1).length + 0 = i:=by simp [i64s]
   rw [this] at h6
   rw [h6]
   rfl
  ·rw [List.getElem?_eq_none (by omega),List.getElem?_eq_none (by omega)]
 rw [← e]
 exact ho
theorem Fresh.tup {σ:Sg} {w w':World} {blk:Blk} {vf:Nat → MV} {u:Value} (h:Fresh σ w w' blk vf u) (n:Int):Fresh σ w w' blk (fun b => .tup [vf b,iv n]) (.tuple #[u,.int .i64 n]):=by
 have key:∀ τ b,RV τ (vf b) u → RV τ (.tup [vf b,iv n]) (.tuple #[u,.int .i64 n]):=by
  intro τ b h
  simp only [RV,RVs]
  exact ⟨_,⟨_,_,rfl,h,_,_,rfl,rfl,rfl⟩,rfl⟩
 rcases h with ⟨g,cs,rest,h1,h2,h3,h4⟩ | h
 ·exact .inl ⟨g,cs,rest,h1,h2,h3,fun τ b e1 e2 e3 e4 => key τ b (h4 τ b e1 e2 e3 e4)⟩
 ·exact .inr (fun τ b e1 => key τ b (h τ b e1))
def drawG:List MV → (Nat → Option Blk) → (Blk → (Nat → MV) → Option Out) → Option Out:=fun args rd k => match args with
 | [.val (.slice none 0 0),.agg [.val (.int .i64 x),.val (.int .i64 y),.val (.int .i64 s),.val (.int .i64 wi),.val (.int .i64 hi)]] => bif decide (Pure.okG x y s wi hi) then
   k ⟨.recs (i64s 1) ((Pure.pic [] x y s wi.toNat hi.toNat).map fun v => [v]),2⟩ (fun b => .tup [.va b 0 (Pure.pic [] x y s wi.toNat hi.toNat).length 1,iv 0]) else none
 | _ => none
theorem drawG_ok {X:Env}:NOk Try.prog X 28 drawG:=by
 intro args rd k r hG
 unfold drawG at hG
 split at hG
 ·rename_i x y s wi hi
  cases hd:decide (Pure.okG x y s wi hi) with
  | false => rw [hd] at hG; simp at hG
  | true =>
   rw [hd] at hG
   simp only [cond_true] at hG
   obtain ⟨K,hK⟩:=Pure.draw_ok [] x y s wi hi (by simp) (of_decide_eq_true hd)
   refine ⟨_,_,hG,rfl,fun base w0 σ us w hX hb hn hu hr => ?_⟩
   have hus:=(pls_ok (σ:=σ) [.val (.slice none 0 0),.agg [.val (.int .i64 x),.val (.int .i64 y),.val (.int .i64 s),.val (.int .i64 wi),.val (.int .i64 hi)]] _ rfl us).1 hu
   subst hus
   refine Calls.mono (raster_Draw.calls K none 0 [] x y s wi hi _ 0 w (Kd.C_nil _ _) (Nat.le_refl _) (hK K (Nat.le_refl K))) ?_
   rintro e' w' ⟨v,rfl,hR,hB⟩
   exact ⟨_,rfl,Fresh.tup (fresh_own (ints_own hR) (by simp) rfl) 0,hB⟩
 ·cases hG
noncomputable abbrev E:=EX Try.prog
theorem E_ok:EqOk Try.prog E:=EX_ok Try.prog
theorem mixed:Try.prog.follows .mixedOrders = true:=by kernel_rfl
end Go.Proofs.Ytppklhfiajjhmaa.Ti
end
section
namespace Go.Proofs.Ytppklhfiajjhmaa.Ti
open Go Go.RowKit Go.Proofs.Ytppklhfiajjhmaa.Y
set_option linter.unusedVariables false
set_option linter.unusedSimpArgs false
def ownB (l:List (List Int)) (x y:Int):Bool:=(Pure.ownr (l.map dec39) x y).isSome
def ownN (l:List (List Int)) (x y:Int):Int:=match Pure.ownr (l.map dec39) x y with
 | some m => (m:Int)
 | none => 0
def ownG:List MV → (Nat → Option Blk) → KV → Option Out:=fun args rd k => match args with
 | [a,.val (.int .i64 x),.val (.int .i64 y)] => match rowsC T0 (i64s 15) rd a with
  | (c,some l) => bif c then (bif decide (l.length ≤ 1000) then k (.tup [iv (ownN l x y),.val (.bool (ownB l x y))]) else none) else none
  | (_,none) => none
 | _ => none
theorem ownG_ok {X:Env}:QOk Try.prog X 51 ownG:=by
 intro args rd k r hG
 unfold ownG at hG
 split at hG
 ·rename_i a x y
  split at hG
  ·rename_i c l hl0
   cases c with
   | false => simp at hG
   | true =>
   simp only [cond_true] at hG
   have hl:=rowsC_ok hl0
   cases hd:decide (l.length ≤ 1000) with
   | false => rw [hd] at hG; simp at hG
   | true =>
   rw [hd] at hG
   simp only [cond_true] at hG
   have hd':l.length ≤ 1000:=of_decide_eq_true hd
   refine ⟨_,hG,fun base w0 σ us w hX hb hn hu hr => ?_⟩
   simp only [RVs] at hu
   obtain ⟨u0,r0,rfl,h0,u1,r1,rfl,h1,u2,r2,rfl,h2,rfl⟩:=hu
   have e1:=h1.val_inv
   have e2:=h2.val_inv
   subst e1; subst e2
   obtain ⟨A,c,rfl,hc,hC⟩:=items_C (rowsOf_ok hl (T0_out _ base w0 σ.x) hb h0 (fun b k hb' hk => hr b k (reach_l (by simp [refsL,hb'])) hk)) hd'
   have hf:=Pure.of_eq (l.map dec39) x y 1100 (by rw [List.length_map]; omega) (by rw [List.length_map]; omega)
   refine Calls.mono (PPT.owner_Of.calls 1100 A c (l.map dec39) x y (ownN l x y) (ownB l x y) w hC hc ?_) ?_
   ·rw [hf]
    unfold ownN ownB
    cases Pure.ownr (l.map dec39) x y <;> rfl
   ·rintro e w' ⟨rfl,hB⟩
    exact ⟨_,rfl,by simp [RV,RVs],hB⟩
  ·cases hG
 ·cases hG
noncomputable def A1:Ctx:=addR C0 51 ownG
noncomputable def A2:Ctx:=addI A1 72 (inlG Try.prog E A1 3 72)
theorem A1_ok:COk Try.prog A1:=addR_ok (C0_ok _) ownG_ok (fnOk_of Try.func51 (by kernel_rfl) (by kernel_rfl))
theorem A2_ok:COk Try.prog A2:=addI_ok A1_ok (inl_ok E_ok A1_ok mixed _ _) (fnOk_of Try.func72 (by kernel_rfl) (by kernel_rfl))
set_option maxRecDepth 100000 in
theorem spanNf (X Y S W H fr x0 x1 many:Int) (c0:KM):xfun Try.prog E A2 3 65 [.ptr 0 0,iv fr,iv x0,iv x1,iv many] [some ⟨.rlst [iv X,iv Y,iv S,iv W,iv H,.any,.any],90⟩] c0 =
  bif decide (x0 ≤ fr) then bif decide (x1 ≤ fr) then c0 (MV.tup [iv (if many < 0 then many else 0),iv (if (if many < 0 then many else 0) < if many < 0 then many else 0 then if many < 0 then many else 0 else if many < 0 then many else 0)]) [some { row:=Row.rlst [iv X,iv Y,iv S,iv W,iv H,MV.any,MV.any],ty:=90 }] else bif !decide (S = 0) then c0 (MV.tup [iv (if many < 0 then many else 0),iv (if (if many < 0 then many else 0) < if many < IntKind.wrap IntKind.i64 (Int.tdiv (IntKind.wrap IntKind.i64 (IntKind.wrap IntKind.i64 (IntKind.wrap IntKind.i64 (x1 - fr) + S) - 1)) S) then many else IntKind.wrap IntKind.i64 (Int.tdiv (IntKind.wrap IntKind.i64 (IntKind.wrap IntKind.i64 (IntKind.wrap IntKind.i64 (x1 - fr) + S) - 1)) S) then if many < IntKind.wrap IntKind.i64 (Int.tdiv (IntKind.wrap IntKind.i64 (IntKind.wrap IntKind.i64 (IntKind.wrap IntKind.i64 (x1 - fr) + S) - 1)) S) then many else IntKind.wrap IntKind.i64 (Int.tdiv (IntKind.wrap IntKind.i64 (IntKind.wrap IntKind.i64 (IntKind.wrap IntKind.i64 (x1 - fr) + S) - 1)) S) else if many < 0 then many else 0)]) [some { row:=Row.rlst [iv X,iv Y,iv S,iv W,iv H,MV.any,MV.any],ty:=90 }] else none else bif !decide (S = 0) then bif decide (x1 ≤ fr) then c0 (MV.tup [iv (if many < IntKind.wrap IntKind.i64 (Int.tdiv (IntKind.wrap IntKind.i64 (IntKind.wrap IntKind.i64 (IntKind.wrap IntKind.i64 (x0 - fr) + S) - 1)) S) then many else IntKind.wrap IntKind.i64 (Int.tdiv (IntKind.wrap IntKind.i64 (IntKind.wrap IntKind.i64 (IntKind.wrap IntKind.i64 (x0 - fr) + S) - 1)) S)),iv (if (if many < IntKind.wrap IntKind.i64 (Int.tdiv (IntKind.wrap IntKind.i64 (IntKind.wrap IntKind.i64 (IntKind.wrap IntKind.i64 (x0 - fr) + S) - 1)) S) then many else IntKind.wrap IntKind.i64 (Int.tdiv (IntKind.wrap IntKind.i64 (IntKind.wrap IntKind.i64 (IntKind.wrap IntKind.i64 (x0 - fr) + S) - 1)) S)) < if many < 0 then many else 0 then if many < 0 then many else 0 else if many < IntKind.wrap IntKind.i64 (Int.tdiv (IntKind.wrap IntKind.i64 (IntKind.wrap IntKind.i64 (IntKind.wrap IntKind.i64 (x0 - fr) + S) - 1)) S) then many else IntKind.wrap IntKind.i64 (Int.tdiv (IntKind.wrap IntKind.i64 (IntKind.wrap IntKind.i64 (IntKind.wrap IntKind.i64 (x0 - fr) + S) - 1)) S))]) [some { row:=Row.rlst [iv X,iv Y,iv S,iv W,iv H,MV.any,MV.any],ty:=90 }] else bif !decide (S = 0) then c0 (MV.tup [iv (if many < IntKind.wrap IntKind.i64 (Int.tdiv (IntKind.wrap IntKind.i64 (IntKind.wrap IntKind.i64 (IntKind.wrap IntKind.i64 (x0 - fr) + S) - 1)) S) then many else IntKind.wrap IntKind.i64 (Int.tdiv (IntKind.wrap IntKind.i64 (IntKind.wrap IntKind.i64 (IntKind.wrap IntKind.i64 (x0 - fr) + S) - 1)) S)),iv (if (if many < IntKind.wrap IntKind.i64 (Int.tdiv (IntKind.wrap IntKind.i64 (IntKind.wrap IntKind.i64 (IntKind.wrap IntKind.i64 (x0 - fr) + S) - 1)) S) then many else IntKind.wrap IntKind.i64 (Int.tdiv (IntKind.wrap IntKind.i64 (IntKind.wrap IntKind.i64 (IntKind.wrap IntKind.i64 (x0 - fr) + S) - 1)) S)) < if many < IntKind.wrap IntKind.i64 (Int.tdiv (IntKind.wrap IntKind.i64 (IntKind.wrap IntKind.i64 (IntKind.wrap IntKind.i64 (x1 - fr) + S) - 1)) S) then many else IntKind.wrap IntKind.i64 (Int.tdiv (IntKind.wrap IntKind.i64 (IntKind.wrap IntKind.i64 (IntKind.wrap IntKind.i64 (x1 - fr) + S) - 1)) S) then if many < IntKind.wrap IntKind.i64 (Int.tdiv (IntKind.wrap IntKind.i64 (IntKind.wrap IntKind.i64 (IntKind.wrap IntKind.i64 (x1 - fr) + S) - 1)) S) then many else IntKind.wrap IntKind.i64 (Int.tdiv (IntKind.wrap IntKind.i64 (IntKind.wrap IntKind.i64 (IntKind.wrap IntKind.i64 (x1 - fr) + S) - 1)) S) else if many < IntKind.wrap IntKind.i64 (Int.tdiv (IntKind.wrap IntKind.i64 (IntKind.wrap IntKind.i64 (IntKind.wrap IntKind.i64 (x0 - fr) + S) - 1)) S) then many else IntKind.wrap IntKind.i64 (Int.tdiv (IntKind.wrap IntKind.i64 (IntKind.wrap IntKind.i64 (IntKind.wrap IntKind.i64 (x0 - fr) + S) - 1)) S))]) [some { row:=Row.rlst [iv X,iv Y,iv S,iv W,iv H,MV.any,MV.any],ty:=90 }] else none else none:=by kernel_rfl
def firstI (fr x S:Int):Int:=bif decide (x ≤ fr) then 0 else IntKind.wrap .i64 (Int.tdiv (IntKind.wrap .i64 (IntKind.wrap .i64 (IntKind.wrap .i64 (x - fr) + S) - 1)) S)
def minI (a b:Int):Int:=if b < a then b else a
def maxI (a b:Int):Int:=if a < b then b else a
def loI (fr x0 S many:Int):Int:=minI (firstI fr x0 S) many
def hiI (fr x0 x1 S many:Int):Int:=maxI (minI (firstI fr x0 S) many) (minI (firstI fr x1 S) many)
def spanF:List MV → Nat → Nat → List MV → Option MV:=fun cells ty o ps => match cells,ty,o,ps with
 | [.val (.int .i64 X),.val (.int .i64 Y),.val (.int .i64 S),.val (.int .i64 W),.val (.int .i64 H),.any,.any],90,0,[.val (.int .i64 fr),.val (.int .i64 x0),.val (.int .i64 x1),.val (.int .i64 many)] =>
  bif !decide (S = 0) then some (.tup [iv (loI fr x0 S many),iv (hiI fr x0 x1 S many)]) else none
 | _,_,_,_ => none
theorem spanF_ok:QOk Try.prog A2.env 65 (toR1 spanF):=by
 refine Q_one true_stable (fun cells ty o ps v h => ?_)
 unfold spanF at h
 split at h
 ·rename_i X Y S W H fr x0 x1 many
  cases hS:(!decide (S = 0)) with
  | false => rw [hS] at h; cases h
  | true =>
   rw [hS] at h
   simp only [cond_true,Option.some.injEq] at h
   subst h
   refine ⟨⟨_,rfl⟩,⟨_,rfl⟩,?_⟩
   refine XF.of_x E_ok A2_ok mixed (n:=3) (m':=[some ⟨.rlst [iv X,iv Y,iv S,iv W,iv H,.any,.any],90⟩]) (fun k => ?_) rfl
   rw [spanNf]
   unfold loI hiI firstI
   cases h1:decide (x0 ≤ fr) <;> cases h2:decide (x1 ≤ fr) <;> simp only [hS,cond_true,cond_false] <;> rfl
 ·cases h
def spanG:List MV → (Nat → Option Blk) → KV → Option Out:=fun args rd k => match args with
 | [.ptr b 0,.val (.int .i64 fr),.val (.int .i64 x0),.val (.int .i64 x1),.val (.int .i64 many)] => match rd b with
  | some kb => match kb.cells,kb.ty with
   | [.val (.int .i64 X),.val (.int .i64 Y),.val (.int .i64 S),.val (.int .i64 W),.val (.int .i64 H),.va b1 i1 n1 s1,.va b2 i2 n2 s2],90 =>
    bif !decide (S = 0) then k (.tup [iv (loI fr x0 S many),iv (hiI fr x0 x1 S many)]) else none
   | _,_ => none
  | none => none
 | _ => none
theorem spanG_ok:QOk Try.prog A2.env 65 spanG:=by
 intro args rd k r hG
 refine spanF_ok args rd k r ?_
 unfold spanG at hG
 split at hG
 ·rename_i b fr x0 x1 many
  split at hG
  ·rename_i kb hb
   split at hG
   ·rename_i X Y S W H b1 i1 n1 s1 b2 i2 n2 s2 hc ht
    simp only [toR1,hb,hc,ht,spanF,List.map_cons,List.map_nil,hide]
    cases hS:(!decide (S = 0)) with
    | false => rw [hS] at hG; cases hG
    | true =>
     rw [hS] at hG
     exact hG
   ·cases hG
  ·cases hG
 ·cases hG
noncomputable def A3:Ctx:=addR A2 65 spanG
theorem A3_ok:COk Try.prog A3:=addR_ok A2_ok spanG_ok (fnOk_of Try.func65 (by kernel_rfl) (by kernel_rfl))
noncomputable def c56:Code:=bodyOf Try.f56
def TM (u:Nat → MV) (left right top bottom row k:Int):List MV :=
 [.ptr 0 0,u 1,u 2,u 3,u 4,iv left,iv right,iv top,iv bottom,iv row,iv k] ++ (List.range 118).map (fun i => u (i + 11))
def Mp (X Y S W H:Int) (L:MV) (nc:Nat) (cs:List (List Int)) (third:List (Option Blk)):Mem :=
 [some ⟨.rlst [iv X,iv Y,iv S,iv W,iv H,L,.va 1 0 nc 1],90⟩,some ⟨.recs (i64s 1) cs,2⟩] ++ third
set_option maxRecDepth 100000 in
theorem inBody (u:Nat → MV) (left right top bottom row k X Y S W H:Int) (n nc:Nat) (cs it:List (List Int)) (bx:Option Blk) (kk:KE):xcode Try.prog E A3 1 (cut c56 [1,1,1,0,1,0,0,1,0,0,1,0,0]) (TM u left right top bottom row k) (Mp X Y S W H (.va 2 0 n 15) nc cs [some ⟨.rrecs (i64s 15) it,39⟩,bx]) kk =
  bif decide (k < right) then bif List.length it == n then bif decide (List.length it ≤ 1000) then bif ownB it (IntKind.wrap IntKind.i64 (X + IntKind.wrap IntKind.i64 (k * S))) (IntKind.wrap IntKind.i64 (Y + IntKind.wrap IntKind.i64 (row * S))) then bif decide (0 ≤ ownN it (IntKind.wrap IntKind.i64 (X + IntKind.wrap IntKind.i64 (k * S))) (IntKind.wrap IntKind.i64 (Y + IntKind.wrap IntKind.i64 (row * S))) ∧ ownN it (IntKind.wrap IntKind.i64 (X + IntKind.wrap IntKind.i64 (k * S))) (IntKind.wrap IntKind.i64 (Y + IntKind.wrap IntKind.i64 (row * S))) < (↑n:Int)) then bif decide (0 + Int.toNat (ownN it (IntKind.wrap IntKind.i64 (X + IntKind.wrap IntKind.i64 (k * S))) (IntKind.wrap IntKind.i64 (Y + IntKind.wrap IntKind.i64 (row * S)))) < List.length it) then bif decide (0 ≤ IntKind.wrap IntKind.i64 (IntKind.wrap IntKind.i64 (row * W) + k) ∧ IntKind.wrap IntKind.i64 (IntKind.wrap IntKind.i64 (row * W) + k) < (↑nc:Int)) then bif decide (0 + Int.toNat (IntKind.wrap IntKind.i64 (IntKind.wrap IntKind.i64 (row * W) + k)) < List.length cs) then kk XE.normal [MV.ptr 0 0,u 1,u 2,u 3,u 4,iv left,iv right,iv top,iv bottom,iv row,iv (IntKind.wrap IntKind.i64 (k + 1)),iv (List.getD (List.getD it (0 + Int.toNat (ownN it (IntKind.wrap IntKind.i64 (X + IntKind.wrap IntKind.i64 (k * S))) (IntKind.wrap IntKind.i64 (Y + IntKind.wrap IntKind.i64 (row * S))))) []) (0 + 1 + 1 + 1 + 1 + 1 + 1 + 1 + 1 + 1 + 1 + 1 + 1 + 1 + 1) 0),iv (ownN it (IntKind.wrap IntKind.i64 (X + IntKind.wrap IntKind.i64 (k * S))) (IntKind.wrap IntKind.i64 (Y + IntKind.wrap IntKind.i64 (row * S)))),MV.val (Value.bool (ownB it (IntKind.wrap IntKind.i64 (X + IntKind.wrap IntKind.i64 (k * S))) (IntKind.wrap IntKind.i64 (Y + IntKind.wrap IntKind.i64 (row * S))))),u 14,u 15,u 16,u 17,u 18,u 19,u 20,u 21,u 22,u 23,u 24,u 25,u 26,u 27,u 28,u 29,u 30,u 31,u 32,u 33,u 34,u 35,u 36,u 37,u 38,u 39,u 40,u 41,u 42,u 43,u 44,u 45,u 46,u 47,u 48,u 49,u 50,u 51,u 52,u 53,u 54,u 55,u 56,u 57,u 58,iv k,iv right,MV.val (Value.bool true),iv k,iv (IntKind.wrap IntKind.i64 (k + 1)),MV.tup [iv (ownN it (IntKind.wrap IntKind.i64 (X + IntKind.wrap IntKind.i64 (k * S))) (IntKind.wrap IntKind.i64 (Y + IntKind.wrap IntKind.i64 (row * S)))),MV.val (Value.bool (ownB it (IntKind.wrap IntKind.i64 (X + IntKind.wrap IntKind.i64 (k * S))) (IntKind.wrap IntKind.i64 (Y + IntKind.wrap IntKind.i64 (row * S)))))],MV.ptr 0 0,MV.ptr 0 0,MV.ptr 0 5,MV.va 2 0 n 15,MV.ptr 0 0,MV.ptr 0 0,MV.ptr 0 0,MV.ptr 0 0,iv X,iv k,MV.ptr 0 0,MV.ptr 0 0,MV.ptr 0 0,MV.ptr 0 2,iv S,iv (IntKind.wrap IntKind.i64 (k * S)),iv (IntKind.wrap IntKind.i64 (X + IntKind.wrap IntKind.i64 (k * S))),MV.ptr 0 0,MV.ptr 0 0,MV.ptr 0 0,MV.ptr 0 1,iv Y,iv row,MV.ptr 0 0,MV.ptr 0 0,MV.ptr 0 0,MV.ptr 0 2,iv S,iv (IntKind.wrap IntKind.i64 (row * S)),iv (IntKind.wrap IntKind.i64 (Y + IntKind.wrap IntKind.i64 (row * S))),MV.tup [iv (ownN it (IntKind.wrap IntKind.i64 (X + IntKind.wrap IntKind.i64 (k * S))) (IntKind.wrap IntKind.i64 (Y + IntKind.wrap IntKind.i64 (row * S)))),MV.val (Value.bool (ownB it (IntKind.wrap IntKind.i64 (X + IntKind.wrap IntKind.i64 (k * S))) (IntKind.wrap IntKind.i64 (Y + IntKind.wrap IntKind.i64 (row * S)))))],iv (ownN it (IntKind.wrap IntKind.i64 (X + IntKind.wrap IntKind.i64 (k * S))) (IntKind.wrap IntKind.i64 (Y + IntKind.wrap IntKind.i64 (row * S)))),MV.val (Value.bool (ownB it (IntKind.wrap IntKind.i64 (X + IntKind.wrap IntKind.i64 (k * S))) (IntKind.wrap IntKind.i64 (Y + IntKind.wrap IntKind.i64 (row * S))))),MV.val (Value.bool true),MV.ptr 0 0,MV.ptr 0 0,MV.ptr 0 5,MV.va 2 0 n 15,iv (ownN it (IntKind.wrap IntKind.i64 (X + IntKind.wrap IntKind.i64 (k * S))) (IntKind.wrap IntKind.i64 (Y + IntKind.wrap IntKind.i64 (row * S)))),MV.pe 2 15 (0 + Int.toNat (ownN it (IntKind.wrap IntKind.i64 (X + IntKind.wrap IntKind.i64 (k * S))) (IntKind.wrap IntKind.i64 (Y + IntKind.wrap IntKind.i64 (row * S))))) 0,MV.pe 2 15 (0 + Int.toNat (ownN it (IntKind.wrap IntKind.i64 (X + IntKind.wrap IntKind.i64 (k * S))) (IntKind.wrap IntKind.i64 (Y + IntKind.wrap IntKind.i64 (row * S))))) 14,iv (List.getD (List.getD it (0 + Int.toNat (ownN it (IntKind.wrap IntKind.i64 (X + IntKind.wrap IntKind.i64 (k * S))) (IntKind.wrap IntKind.i64 (Y + IntKind.wrap IntKind.i64 (row * S))))) []) (0 + 1 + 1 + 1 + 1 + 1 + 1 + 1 + 1 + 1 + 1 + 1 + 1 + 1 + 1) 0),MV.ptr 0 0,MV.ptr 0 0,MV.ptr 0 6,MV.va 1 0 nc 1,iv row,MV.ptr 0 0,MV.ptr 0 0,MV.ptr 0 0,MV.ptr 0 3,iv W,iv (IntKind.wrap IntKind.i64 (row * W)),iv k,iv (IntKind.wrap IntKind.i64 (IntKind.wrap IntKind.i64 (row * W) + k)),iv (List.getD (List.getD it (0 + Int.toNat (ownN it (IntKind.wrap IntKind.i64 (X + IntKind.wrap IntKind.i64 (k * S))) (IntKind.wrap IntKind.i64 (Y + IntKind.wrap IntKind.i64 (row * S))))) []) (0 + 1 + 1 + 1 + 1 + 1 + 1 + 1 + 1 + 1 + 1 + 1 + 1 + 1 + 1) 0),MV.pe 1 1 (0 + Int.toNat (IntKind.wrap IntKind.i64 (IntKind.wrap IntKind.i64 (row * W) + k))) 0,u 122,u 123,u 124,u 125,u 126,u 127,u 128] [some { row:=Row.rlst [iv X,iv Y,iv S,iv W,iv H,MV.va 2 0 n 15,MV.va 1 0 nc 1],ty:=90 },some { row:=Row.recs [some IntKind.i64] (List.set cs (0 + Int.toNat (IntKind.wrap IntKind.i64 (IntKind.wrap IntKind.i64 (row * W) + k))) (setRec (i64s 1) 0 (List.getD cs (0 + Int.toNat (IntKind.wrap IntKind.i64 (IntKind.wrap IntKind.i64 (row * W) + k))) []) 0 (List.getD (List.getD it (0 + Int.toNat (ownN it (IntKind.wrap IntKind.i64 (X + IntKind.wrap IntKind.i64 (k * S))) (IntKind.wrap IntKind.i64 (Y + IntKind.wrap IntKind.i64 (row * S))))) []) (0 + 1 + 1 + 1 + 1 + 1 + 1 + 1 + 1 + 1 + 1 + 1 + 1 + 1 + 1) 0))),ty:=2 },some { row:=Row.rrecs [some IntKind.i64,some IntKind.i64,some IntKind.i64,some IntKind.i64,some IntKind.i64,some IntKind.i64,some IntKind.i64,some IntKind.i64,some IntKind.i64,some IntKind.i64,some IntKind.i64,some IntKind.i64,some IntKind.i64,some IntKind.i64,some IntKind.i64] it,ty:=39 },bx,none,none,none,none,none,none,none,none,none,none,none,none,none,none,none,none,none,none,none,none,none,none,none,none,none,none,none,none,none,none,none,none,none,none,none,none,none,none,none,none,none,none,none,none,none,none,none,none,none,none,none,none] else none else none else none else none else bif decide (0 ≤ IntKind.wrap IntKind.i64 (IntKind.wrap IntKind.i64 (row * W) + k) ∧ IntKind.wrap IntKind.i64 (IntKind.wrap IntKind.i64 (row * W) + k) < (↑nc:Int)) then bif decide (0 + Int.toNat (IntKind.wrap IntKind.i64 (IntKind.wrap IntKind.i64 (row * W) + k)) < List.length cs) then kk XE.normal [MV.ptr 0 0,u 1,u 2,u 3,u 4,iv left,iv right,iv top,iv bottom,iv row,iv (IntKind.wrap IntKind.i64 (k + 1)),iv 0,iv (ownN it (IntKind.wrap IntKind.i64 (X + IntKind.wrap IntKind.i64 (k * S))) (IntKind.wrap IntKind.i64 (Y + IntKind.wrap IntKind.i64 (row * S)))),MV.val (Value.bool (ownB it (IntKind.wrap IntKind.i64 (X + IntKind.wrap IntKind.i64 (k * S))) (IntKind.wrap IntKind.i64 (Y + IntKind.wrap IntKind.i64 (row * S))))),u 14,u 15,u 16,u 17,u 18,u 19,u 20,u 21,u 22,u 23,u 24,u 25,u 26,u 27,u 28,u 29,u 30,u 31,u 32,u 33,u 34,u 35,u 36,u 37,u 38,u 39,u 40,u 41,u 42,u 43,u 44,u 45,u 46,u 47,u 48,u 49,u 50,u 51,u 52,u 53,u 54,u 55,u 56,u 57,u 58,iv k,iv right,MV.val (Value.bool true),iv k,iv (IntKind.wrap IntKind.i64 (k + 1)),MV.tup [iv (ownN it (IntKind.wrap IntKind.i64 (X + IntKind.wrap IntKind.i64 (k * S))) (IntKind.wrap IntKind.i64 (Y + IntKind.wrap IntKind.i64 (row * S)))),MV.val (Value.bool (ownB it (IntKind.wrap IntKind.i64 (X + IntKind.wrap IntKind.i64 (k * S))) (IntKind.wrap IntKind.i64 (Y + IntKind.wrap IntKind.i64 (row * S)))))],MV.ptr 0 0,MV.ptr 0 0,MV.ptr 0 5,MV.va 2 0 n 15,MV.ptr 0 0,MV.ptr 0 0,MV.ptr 0 0,MV.ptr 0 0,iv X,iv k,MV.ptr 0 0,MV.ptr 0 0,MV.ptr 0 0,MV.ptr 0 2,iv S,iv (IntKind.wrap IntKind.i64 (k * S)),iv (IntKind.wrap IntKind.i64 (X + IntKind.wrap IntKind.i64 (k * S))),MV.ptr 0 0,MV.ptr 0 0,MV.ptr 0 0,MV.ptr 0 1,iv Y,iv row,MV.ptr 0 0,MV.ptr 0 0,MV.ptr 0 0,MV.ptr 0 2,iv S,iv (IntKind.wrap IntKind.i64 (row * S)),iv (IntKind.wrap IntKind.i64 (Y + IntKind.wrap IntKind.i64 (row * S))),MV.tup [iv (ownN it (IntKind.wrap IntKind.i64 (X + IntKind.wrap IntKind.i64 (k * S))) (IntKind.wrap IntKind.i64 (Y + IntKind.wrap IntKind.i64 (row * S)))),MV.val (Value.bool (ownB it (IntKind.wrap IntKind.i64 (X + IntKind.wrap IntKind.i64 (k * S))) (IntKind.wrap IntKind.i64 (Y + IntKind.wrap IntKind.i64 (row * S)))))],iv (ownN it (IntKind.wrap IntKind.i64 (X + IntKind.wrap IntKind.i64 (k * S))) (IntKind.wrap IntKind.i64 (Y + IntKind.wrap IntKind.i64 (row * S)))),MV.val (Value.bool (ownB it (IntKind.wrap IntKind.i64 (X + IntKind.wrap IntKind.i64 (k * S))) (IntKind.wrap IntKind.i64 (Y + IntKind.wrap IntKind.i64 (row * S))))),MV.val (Value.bool false),u 99,u 100,u 101,u 102,u 103,u 104,u 105,u 106,MV.ptr 0 0,MV.ptr 0 0,MV.ptr 0 6,MV.va 1 0 nc 1,iv row,MV.ptr 0 0,MV.ptr 0 0,MV.ptr 0 0,MV.ptr 0 3,iv W,iv (IntKind.wrap IntKind.i64 (row * W)),iv k,iv (IntKind.wrap IntKind.i64 (IntKind.wrap IntKind.i64 (row * W) + k)),iv 0,MV.pe 1 1 (0 + Int.toNat (IntKind.wrap IntKind.i64 (IntKind.wrap IntKind.i64 (row * W) + k))) 0,u 122,u 123,u 124,u 125,u 126,u 127,u 128] [some { row:=Row.rlst [iv X,iv Y,iv S,iv W,iv H,MV.va 2 0 n 15,MV.va 1 0 nc 1],ty:=90 },some { row:=Row.recs [some IntKind.i64] (List.set cs (0 + Int.toNat (IntKind.wrap IntKind.i64 (IntKind.wrap IntKind.i64 (row * W) + k))) (setRec (i64s 1) 0 (List.getD cs (0 + Int.toNat (IntKind.wrap IntKind.i64 (IntKind.wrap IntKind.i64 (row * W) + k))) []) 0 0)),ty:=2 },some { row:=Row.rrecs [some IntKind.i64,some IntKind.i64,some IntKind.i64,some IntKind.i64,some IntKind.i64,some IntKind.i64,some IntKind.i64,some IntKind.i64,some IntKind.i64,some IntKind.i64,some IntKind.i64,some IntKind.i64,some IntKind.i64,some IntKind.i64,some IntKind.i64] it,ty:=39 },bx,none,none,none,none,none,none,none,none,none,none,none,none,none,none,none,none,none,none,none,none,none,none,none,none,none,none,none,none,none,none,none,none,none,none,none,none,none,none,none,none,none,none,none,none,none,none,none,none,none,none,none,none] else none else none else none else none else kk (XE.exit 2) [MV.ptr 0 0,u 1,u 2,u 3,u 4,iv left,iv right,iv top,iv bottom,iv row,iv k,u 11,u 12,u 13,u 14,u 15,u 16,u 17,u 18,u 19,u 20,u 21,u 22,u 23,u 24,u 25,u 26,u 27,u 28,u 29,u 30,u 31,u 32,u 33,u 34,u 35,u 36,u 37,u 38,u 39,u 40,u 41,u 42,u 43,u 44,u 45,u 46,u 47,u 48,u 49,u 50,u 51,u 52,u 53,u 54,u 55,u 56,u 57,u 58,iv k,iv right,MV.val (Value.bool false),u 62,u 63,u 64,u 65,u 66,u 67,u 68,u 69,u 70,u 71,u 72,u 73,u 74,u 75,u 76,u 77,u 78,u 79,u 80,u 81,u 82,u 83,u 84,u 85,u 86,u 87,u 88,u 89,u 90,u 91,u 92,u 93,u 94,u 95,u 96,u 97,u 98,u 99,u 100,u 101,u 102,u 103,u 104,u 105,u 106,u 107,u 108,u 109,u 110,u 111,u 112,u 113,u 114,u 115,u 116,u 117,u 118,u 119,u 120,u 121,u 122,u 123,u 124,u 125,u 126,u 127,u 128] [some { row:=Row.rlst [iv X,iv Y,iv S,iv W,iv H,MV.va 2 0 n 15,MV.va 1 0 nc 1],ty:=90 },some { row:=Row.recs [some IntKind.i64] cs,ty:=2 },some { row:=Row.rrecs [some IntKind.i64,some IntKind.i64,some IntKind.i64,some IntKind.i64,some IntKind.i64,some IntKind.i64,some IntKind.i64,some IntKind.i64,some IntKind.i64,some IntKind.i64,some IntKind.i64,some IntKind.i64,some IntKind.i64,some IntKind.i64,some IntKind.i64] it,ty:=39 },bx]:=by kernel_rfl
end Go.Proofs.Ytppklhfiajjhmaa.Ti
end
section
namespace Go.Proofs.Ytppklhfiajjhmaa.Ti
open Go Go.RowKit Go.Proofs.Ytppklhfiajjhmaa.Y
set_option linter.unusedVariables false
set_option linter.unusedSimpArgs false
structure IsTM (tm:List MV) (left right top bottom row k:Int):Prop where
 len:tm.length = 129
 h0:tm[0]? = some (.ptr 0 0)
 h5:tm[5]? = some (iv left)
 h6:tm[6]? = some (iv right)
 h7:tm[7]? = some (iv top)
 h8:tm[8]? = some (iv bottom)
 h9:tm[9]? = some (iv row)
 h10:tm[10]? = some (iv k)
theorem IsTM.eq {tm:List MV} {left right top bottom row k:Int} (h:IsTM tm left right top bottom row k):∃ u,tm = TM u left right top bottom row k:=by
 refine ⟨fun i => tm.getD i (.val undef),?_⟩
 have hg:∀ i,i < 129 → tm[i]? = some (tm.getD i (.val undef)):=by
  intro i hi
  rw [List.getD_eq_getElem?_getD,List.getElem?_eq_getElem (by rw [h.len]; exact hi)]
  rfl
 apply List.ext_getElem?
 intro i
 rcases Nat.lt_or_ge i 11 with hi | hi
 ·unfold TM
  rw [List.getElem?_append_left (by simpa using hi)]
  match i,hi with
  | 0,_ => exact h.h0
  | 1,_ => exact hg 1 (by omega)
  | 2,_ => exact hg 2 (by omega)
  | 3,_ => exact hg 3 (by omega)
  | 4,_ => exact hg 4 (by omega)
  | 5,_ => exact h.h5
  | 6,_ => exact h.h6
  | 7,_ => exact h.h7
  | 8,_ => exact h.h8
  | 9,_ => exact h.h9
  | 10,_ => exact h.h10
 ·unfold TM
  rw [List.getElem?_append_right (by simpa using hi)]
  simp only [List.length_cons,List.length_nil,List.getElem?_map]
  rcases Nat.lt_or_ge i 129 with hi2 | hi2
  ·rw [List.getElem?_range (by omega),hg i hi2]
   simp only [Option.map_some]
   congr 3
   omega
  ·rw [List.getElem?_eq_none (by rw [h.len]; exact hi2),List.getElem?_eq_none (by simp; omega)]
   rfl
theorem And_swap {α:Type} {p q:α → Prop} (h:∃ x,q x ∧ p x):∃ x,p x ∧ q x:=by obtain ⟨x,a,b⟩:=h; exact ⟨x,b,a⟩
abbrev w6 (n:Int):Int:=IntKind.wrap .i64 n
theorem setRec1 (r:List Int) (v:Int):setRec (i64s 1) 0 r 0 v = [v]:=rfl
def colC (it:List (List Int)) (x y:Int):Int:=bif ownB it x y then (it.getD (ownN it x y).toNat []).getD 14 0 else 0
theorem own_lt {it:List (List Int)} {x y:Int} (h:ownB it x y = true):0 ≤ ownN it x y ∧ ownN it x y < it.length:=by
 unfold ownB at h
 unfold ownN
 cases ho:Pure.ownr (it.map dec39) x y with
 | none => rw [ho] at h; simp at h
 | some m =>
  have:=Pure.ownr_lt ho
  simp only [List.length_map] at this
  simp only
  omega
theorem in_round (u:Nat → MV) (left right top bottom row k X Y S W H:Int) (n nc:Nat) (cs it:List (List Int)) (bx:Option Blk) (hk:k < right) (hn:it.length = n) (h1:it.length ≤ 1000)
  (hnc:cs.length = nc) (hi:w6 (w6 (row * W) + k) = row * W + k) (hk1:w6 (k + 1) = k + 1) (hb:0 ≤ row * W + k ∧ row * W + k < nc) :
  ∃ tm',IsTM tm' left right top bottom row (k + 1) ∧ ∀ kk:KE,xcode Try.prog E A3 1 (cut c56 [1,1,1,0,1,0,0,1,0,0,1,0,0]) (TM u left right top bottom row k) (Mp X Y S W H (.va 2 0 n 15) nc cs [some ⟨.rrecs (i64s 15) it,39⟩,bx]) kk =
   kk .normal tm' (Mp X Y S W H (.va 2 0 n 15) nc (cs.set (row * W + k).toNat [colC it (w6 (X + w6 (k * S))) (w6 (Y + w6 (row * S)))]) [some ⟨.rrecs (i64s 15) it,39⟩,bx] ++ List.replicate 52 none):=by
 have c1:decide (k < right) = true:=decide_eq_true hk
 have c2:(List.length it == n) = true:=by simp [hn]
 have c3:decide (it.length ≤ 1000) = true:=decide_eq_true h1
 have c4:decide (0 ≤ row * W + k ∧ row * W + k < (nc:Int)) = true:=decide_eq_true hb
 have c5:decide ((row * W + k).toNat < cs.length) = true:=decide_eq_true (by omega)
 cases hB:ownB it (w6 (X + w6 (k * S))) (w6 (Y + w6 (row * S))) with
 | true =>
  obtain ⟨o1,o2⟩:=own_lt hB
  have c6:decide (0 ≤ ownN it (w6 (X + w6 (k * S))) (w6 (Y + w6 (row * S))) ∧ ownN it (w6 (X + w6 (k * S))) (w6 (Y + w6 (row * S))) < (n:Int)) = true:=decide_eq_true ⟨o1,by rw [← hn]; exact o2⟩
  have c7:decide ((ownN it (w6 (X + w6 (k * S))) (w6 (Y + w6 (row * S)))).toNat < it.length) = true:=decide_eq_true (by omega)
  have hc:colC it (w6 (X + w6 (k * S))) (w6 (Y + w6 (row * S))) = (it.getD (ownN it (w6 (X + w6 (k * S))) (w6 (Y + w6 (row * S)))).toNat []).getD 14 0:=by unfold colC; rw [hB]; rfl
  refine And_swap ?_
  apply Exists.intro
  refine ⟨fun kk => ?_,?_⟩
  ·rw [inBody]
   simp only [c1,c2,c3,hB,c6,c7,hi,c4,c5,hk1,cond_true,hc,Nat.zero_add,Mp,setRec1]
   rfl
  ·exact ⟨rfl,rfl,rfl,rfl,rfl,rfl,rfl,rfl⟩
 | false =>
  have hc:colC it (w6 (X + w6 (k * S))) (w6 (Y + w6 (row * S))) = 0:=by unfold colC; rw [hB]; rfl
  refine And_swap ?_
  apply Exists.intro
  refine ⟨fun kk => ?_,?_⟩
  ·rw [inBody]
   simp only [c1,c2,c3,hB,hi,c4,c5,hk1,cond_true,cond_false,hc,Nat.zero_add,Mp,setRec1]
   rfl
  ·exact ⟨rfl,rfl,rfl,rfl,rfl,rfl,rfl,rfl⟩
theorem in_end (u:Nat → MV) (left right top bottom row k X Y S W H:Int) (n nc:Nat) (cs it:List (List Int)) (bx:Option Blk) (hk:¬ k < right) :
  ∃ tm',IsTM tm' left right top bottom row k ∧ ∀ kk:KE,xcode Try.prog E A3 1 (cut c56 [1,1,1,0,1,0,0,1,0,0,1,0,0]) (TM u left right top bottom row k) (Mp X Y S W H (.va 2 0 n 15) nc cs [some ⟨.rrecs (i64s 15) it,39⟩,bx]) kk =
   kk (.exit 2) tm' (Mp X Y S W H (.va 2 0 n 15) nc cs [some ⟨.rrecs (i64s 15) it,39⟩,bx]):=by
 have c1:decide (k < right) = false:=decide_eq_false hk
 refine And_swap ?_
 apply Exists.intro
 refine ⟨fun kk => ?_,?_⟩
 ·rw [inBody]
  simp only [c1,cond_false,Mp]
  rfl
 ·exact ⟨rfl,rfl,rfl,rfl,rfl,rfl,rfl,rfl⟩
end Go.Proofs.Ytppklhfiajjhmaa.Ti
end
section
namespace Go.Proofs.Ytppklhfiajjhmaa.Ti
open Go Go.RowKit Go.Proofs.Ytppklhfiajjhmaa.Y
set_option linter.unusedVariables false
set_option linter.unusedSimpArgs false
theorem w6_id {n:Int} (h1:-9223372036854775808 ≤ n) (h2:n < 9223372036854775808):w6 n = n:=by
 unfold w6
 rw [IntKind.wrap_i64]
 omega
def rowP (it:List (List Int)) (X Y S W row:Int):Nat → Int → List (List Int) → List (List Int)
 | 0,_,cs => cs
 | d + 1,k,cs => rowP it X Y S W row d (k + 1) (cs.set (row * W + k).toNat [colC it (w6 (X + w6 (k * S))) (w6 (Y + w6 (row * S)))])
theorem rowP_len (it:List (List Int)) (X Y S W row:Int):∀ (d:Nat) (k:Int) (cs:List (List Int)),(rowP it X Y S W row d k cs).length = cs.length
 | 0,_,_ => rfl
 | d + 1,k,cs => by rw [rowP,rowP_len it X Y S W row d]; simp
section
variable (it:List (List Int)) (bx:Option Blk) (left right top bottom X Y S W H:Int) (n nc:Nat)
def MpA (cs:List (List Int)):Mem:=Mp X Y S W H (.va 2 0 n 15) nc cs [some ⟨.rrecs (i64s 15) it,39⟩,bx]
theorem in_loop (row:Int) (hn:it.length = n) (h1:it.length ≤ 1000) (hr:0 ≤ row * W) (hl:0 ≤ left) (hb:row * W + right ≤ nc) (hnc:nc ≤ 1000000) {tm:List MV} {k:Int} {cs:List (List Int)} {q:Nat}
  (h:IsTM tm left right top bottom row k) (hk0:0 ≤ k) (hk:k ≤ right) (hcs:cs.length = nc) :
  XR Try.prog A3.env (cut c56 [1,1,1,0,1,0,0,1,0,0,1,0]) tm (MpA it bx X Y S W H n nc cs ++ List.replicate q none) (fun e tm' m' => e = .exit 2 ∧ IsTM tm' left right top bottom row right ∧ ∃ q',m' = MpA it bx X Y S W H n nc (rowP it X Y S W row (right - k).toNat k cs) ++ List.replicate q' none):=by
 have e:cut c56 [1,1,1,0,1,0,0,1,0,0,1,0] = .loop (cut c56 [1,1,1,0,1,0,0,1,0,0,1,0,0]):=by kernel_rfl
 refine XR.cast e ?_
 refine XR.loop (fun j tm m => ∃ (k':Int) (cs':List (List Int)) (q':Nat),IsTM tm left right top bottom row k' ∧ m = MpA it bx X Y S W H n nc cs' ++ List.replicate q' none ∧ 0 ≤ k' ∧ k' ≤ right ∧ cs'.length = nc ∧ j = (right - k').toNat ∧
  rowP it X Y S W row (right - k').toNat k' cs' = rowP it X Y S W row (right - k).toNat k cs) ?_ (j:=(right - k).toNat) ⟨k,cs,q,h,rfl,hk0,hk,hcs,rfl,rfl⟩
 rintro j tm m ⟨k',cs',q',g1,rfl,g2,g3,g4,rfl,g5⟩
 refine XR.trim ?_
 obtain ⟨u,rfl⟩:=g1.eq
 by_cases hlt:k' < right
 ·obtain ⟨tm',t1,t2⟩:=in_round u left right top bottom row k' X Y S W H n nc cs' it bx hlt hn h1 g4 (by rw [w6_id (n:=row * W) (by omega) (by omega),w6_id (by omega) (by omega)]) (w6_id (by omega) (by omega)) (by omega)
  refine XR.of_x E_ok A3_ok mixed t2 ?_
  refine ⟨(right - (k' + 1)).toNat,by omega,k' + 1,_,52,t1,rfl,by omega,by omega,by simpa using g4,rfl,?_⟩
  rw [← g5]
  have:(right - k').toNat = (right - (k' + 1)).toNat + 1:=by omega
  rw [this,rowP]
 ·obtain ⟨tm',t1,t2⟩:=in_end u left right top bottom row k' X Y S W H n nc cs' it bx hlt
  refine XR.of_x E_ok A3_ok mixed t2 ?_
  have hk':k' = right:=by omega
  subst hk'
  refine ⟨rfl,t1,0,?_⟩
  have:(k' - k').toNat = 0:=by omega
  rw [this,rowP] at g5
  rw [← g5]
  simp [MpA]
end
end Go.Proofs.Ytppklhfiajjhmaa.Ti
end
section
namespace Go.Proofs.Ytppklhfiajjhmaa.Ti
open Go Go.RowKit Go.Proofs.Ytppklhfiajjhmaa.Y
set_option linter.unusedVariables false
set_option linter.unusedSimpArgs false
theorem list_eq {tm p:List MV} {N:Nat} (hl:tm.length = N) (hq:p.length ≤ N) (h:∀ i,i < p.length → tm[i]? = p[i]?):tm = p ++ (List.range (N - p.length)).map (fun i => tm.getD (i + p.length) (.val undef)):=by
 apply List.ext_getElem?
 intro i
 rcases Nat.lt_or_ge i p.length with hi | hi
 ·rw [List.getElem?_append_left hi,h i hi]
 ·rw [List.getElem?_append_right hi,List.getElem?_map]
  rcases Nat.lt_or_ge i N with hi2 | hi2
  ·rw [List.getElem?_range (by omega),List.getElem?_eq_getElem (by omega)]
   simp only [Option.map_some]
   rw [show i - p.length + p.length = i by omega,List.getD_eq_getElem?_getD,List.getElem?_eq_getElem (by omega)]
   rfl
  ·rw [List.getElem?_eq_none (by omega),List.getElem?_eq_none (by simp; omega)]
   rfl
def TO (u:Nat → MV) (left right top bottom row:Int):List MV :=
 [.ptr 0 0,u 1,u 2,u 3,u 4,iv left,iv right,iv top,iv bottom,iv row] ++ (List.range 119).map (fun i => u (i + 10))
structure IsTO (tm:List MV) (left right top bottom row:Int):Prop where
 len:tm.length = 129
 h0:tm[0]? = some (.ptr 0 0)
 h5:tm[5]? = some (iv left)
 h6:tm[6]? = some (iv right)
 h7:tm[7]? = some (iv top)
 h8:tm[8]? = some (iv bottom)
 h9:tm[9]? = some (iv row)
theorem get_u {tm:List MV} {i N:Nat} (h:tm.length = N) (hi:i < N):tm[i]? = some (tm.getD i (.val undef)):=by
 rw [List.getD_eq_getElem?_getD,List.getElem?_eq_getElem (by omega)]; rfl
theorem IsTO.eq {tm:List MV} {left right top bottom row:Int} (h:IsTO tm left right top bottom row):∃ u,tm = TO u left right top bottom row:=by
 refine ⟨fun i => tm.getD i (.val undef),list_eq (p:=[.ptr 0 0,_,_,_,_,iv left,iv right,iv top,iv bottom,iv row]) h.len (by simp) (fun i hi => ?_)⟩
 match i,hi with
 | 0,_ => exact h.h0
 | 1,_ => exact get_u h.len (by omega)
 | 2,_ => exact get_u h.len (by omega)
 | 3,_ => exact get_u h.len (by omega)
 | 4,_ => exact get_u h.len (by omega)
 | 5,_ => exact h.h5
 | 6,_ => exact h.h6
 | 7,_ => exact h.h7
 | 8,_ => exact h.h8
 | 9,_ => exact h.h9
theorem IsTM.o {tm:List MV} {left right top bottom row k:Int} (h:IsTM tm left right top bottom row k):IsTO tm left right top bottom row:=⟨h.len,h.h0,h.h5,h.h6,h.h7,h.h8,h.h9⟩
set_option maxRecDepth 100000 in
theorem outHead (u:Nat → MV) (left right top bottom row X Y S W H:Int) (n nc:Nat) (cs it:List (List Int)) (bx:Option Blk) (kk:KE):xcode Try.prog E A3 1 (cut c56 [1,1,1,0,1,0,0,0]) (TO u left right top bottom row) (Mp X Y S W H (.va 2 0 n 15) nc cs [some ⟨.rrecs (i64s 15) it,39⟩,bx]) kk =
  bif decide (row < bottom) then kk XE.normal [MV.ptr 0 0,u 1,u 2,u 3,u 4,iv left,iv right,iv top,iv bottom,iv row,u 10,u 11,u 12,u 13,u 14,u 15,u 16,u 17,u 18,u 19,u 20,u 21,u 22,u 23,u 24,u 25,u 26,u 27,u 28,u 29,u 30,u 31,u 32,u 33,u 34,u 35,u 36,u 37,u 38,u 39,u 40,u 41,u 42,u 43,u 44,u 45,u 46,u 47,u 48,u 49,u 50,u 51,u 52,iv row,iv bottom,MV.val (Value.bool true),u 56,u 57,u 58,u 59,u 60,u 61,u 62,u 63,u 64,u 65,u 66,u 67,u 68,u 69,u 70,u 71,u 72,u 73,u 74,u 75,u 76,u 77,u 78,u 79,u 80,u 81,u 82,u 83,u 84,u 85,u 86,u 87,u 88,u 89,u 90,u 91,u 92,u 93,u 94,u 95,u 96,u 97,u 98,u 99,u 100,u 101,u 102,u 103,u 104,u 105,u 106,u 107,u 108,u 109,u 110,u 111,u 112,u 113,u 114,u 115,u 116,u 117,u 118,u 119,u 120,u 121,u 122,u 123,u 124,u 125,u 126,u 127,u 128] [some { row:=Row.rlst [iv X,iv Y,iv S,iv W,iv H,MV.va 2 0 n 15,MV.va 1 0 nc 1],ty:=90 },some { row:=Row.recs [some IntKind.i64] cs,ty:=2 },some { row:=Row.rrecs [some IntKind.i64,some IntKind.i64,some IntKind.i64,some IntKind.i64,some IntKind.i64,some IntKind.i64,some IntKind.i64,some IntKind.i64,some IntKind.i64,some IntKind.i64,some IntKind.i64,some IntKind.i64,some IntKind.i64,some IntKind.i64,some IntKind.i64] it,ty:=39 },bx] else kk (XE.exit 0) [MV.ptr 0 0,u 1,u 2,u 3,u 4,iv left,iv right,iv top,iv bottom,iv row,u 10,u 11,u 12,u 13,u 14,u 15,u 16,u 17,u 18,u 19,u 20,u 21,u 22,u 23,u 24,u 25,u 26,u 27,u 28,u 29,u 30,u 31,u 32,u 33,u 34,u 35,u 36,u 37,u 38,u 39,u 40,u 41,u 42,u 43,u 44,u 45,u 46,u 47,u 48,u 49,u 50,u 51,u 52,iv row,iv bottom,MV.val (Value.bool false),u 56,u 57,u 58,u 59,u 60,u 61,u 62,u 63,u 64,u 65,u 66,u 67,u 68,u 69,u 70,u 71,u 72,u 73,u 74,u 75,u 76,u 77,u 78,u 79,u 80,u 81,u 82,u 83,u 84,u 85,u 86,u 87,u 88,u 89,u 90,u 91,u 92,u 93,u 94,u 95,u 96,u 97,u 98,u 99,u 100,u 101,u 102,u 103,u 104,u 105,u 106,u 107,u 108,u 109,u 110,u 111,u 112,u 113,u 114,u 115,u 116,u 117,u 118,u 119,u 120,u 121,u 122,u 123,u 124,u 125,u 126,u 127,u 128] [some { row:=Row.rlst [iv X,iv Y,iv S,iv W,iv H,MV.va 2 0 n 15,MV.va 1 0 nc 1],ty:=90 },some { row:=Row.recs [some IntKind.i64] cs,ty:=2 },some { row:=Row.rrecs [some IntKind.i64,some IntKind.i64,some IntKind.i64,some IntKind.i64,some IntKind.i64,some IntKind.i64,some IntKind.i64,some IntKind.i64,some IntKind.i64,some IntKind.i64,some IntKind.i64,some IntKind.i64,some IntKind.i64,some IntKind.i64,some IntKind.i64] it,ty:=39 },bx]:=by kernel_rfl
set_option maxRecDepth 100000 in
theorem outInit (u:Nat → MV) (left right top bottom row X Y S W H:Int) (n nc:Nat) (cs it:List (List Int)) (bx:Option Blk) (kk:KE):xcode Try.prog E A3 1 (cut c56 [1,1,1,0,1,0,0,1,0,0,0]) (TO u left right top bottom row) (Mp X Y S W H (.va 2 0 n 15) nc cs [some ⟨.rrecs (i64s 15) it,39⟩,bx]) kk =
  kk XE.normal [MV.ptr 0 0,u 1,u 2,u 3,u 4,iv left,iv right,iv top,iv bottom,iv row,iv left,u 11,u 12,u 13,u 14,u 15,u 16,u 17,u 18,u 19,u 20,u 21,u 22,u 23,u 24,u 25,u 26,u 27,u 28,u 29,u 30,u 31,u 32,u 33,u 34,u 35,u 36,u 37,u 38,u 39,u 40,u 41,u 42,u 43,u 44,u 45,u 46,u 47,u 48,u 49,u 50,u 51,u 52,u 53,u 54,u 55,u 56,u 57,iv left,u 59,u 60,u 61,u 62,u 63,u 64,u 65,u 66,u 67,u 68,u 69,u 70,u 71,u 72,u 73,u 74,u 75,u 76,u 77,u 78,u 79,u 80,u 81,u 82,u 83,u 84,u 85,u 86,u 87,u 88,u 89,u 90,u 91,u 92,u 93,u 94,u 95,u 96,u 97,u 98,u 99,u 100,u 101,u 102,u 103,u 104,u 105,u 106,u 107,u 108,u 109,u 110,u 111,u 112,u 113,u 114,u 115,u 116,u 117,u 118,u 119,u 120,u 121,u 122,u 123,u 124,u 125,u 126,u 127,u 128] [some { row:=Row.rlst [iv X,iv Y,iv S,iv W,iv H,MV.va 2 0 n 15,MV.va 1 0 nc 1],ty:=90 },some { row:=Row.recs [some IntKind.i64] cs,ty:=2 },some { row:=Row.rrecs [some IntKind.i64,some IntKind.i64,some IntKind.i64,some IntKind.i64,some IntKind.i64,some IntKind.i64,some IntKind.i64,some IntKind.i64,some IntKind.i64,some IntKind.i64,some IntKind.i64,some IntKind.i64,some IntKind.i64,some IntKind.i64,some IntKind.i64] it,ty:=39 },bx]:=by kernel_rfl
set_option maxRecDepth 100000 in
theorem outNext (u:Nat → MV) (left right top bottom row k X Y S W H:Int) (n nc:Nat) (cs it:List (List Int)) (bx:Option Blk) (kk:KE):xcode Try.prog E A3 1 (cut c56 [1,1,1,0,1,0,0,1,1]) (TM u left right top bottom row k) (Mp X Y S W H (.va 2 0 n 15) nc cs [some ⟨.rrecs (i64s 15) it,39⟩,bx]) kk =
  kk XE.normal [MV.ptr 0 0,u 1,u 2,u 3,u 4,iv left,iv right,iv top,iv bottom,iv (IntKind.wrap IntKind.i64 (row + 1)),iv k,u 11,u 12,u 13,u 14,u 15,u 16,u 17,u 18,u 19,u 20,u 21,u 22,u 23,u 24,u 25,u 26,u 27,u 28,u 29,u 30,u 31,u 32,u 33,u 34,u 35,u 36,u 37,u 38,u 39,u 40,u 41,u 42,u 43,u 44,u 45,u 46,u 47,u 48,u 49,u 50,u 51,u 52,u 53,u 54,u 55,iv row,iv (IntKind.wrap IntKind.i64 (row + 1)),u 58,u 59,u 60,u 61,u 62,u 63,u 64,u 65,u 66,u 67,u 68,u 69,u 70,u 71,u 72,u 73,u 74,u 75,u 76,u 77,u 78,u 79,u 80,u 81,u 82,u 83,u 84,u 85,u 86,u 87,u 88,u 89,u 90,u 91,u 92,u 93,u 94,u 95,u 96,u 97,u 98,u 99,u 100,u 101,u 102,u 103,u 104,u 105,u 106,u 107,u 108,u 109,u 110,u 111,u 112,u 113,u 114,u 115,u 116,u 117,u 118,u 119,u 120,u 121,u 122,u 123,u 124,u 125,u 126,u 127,u 128] [some { row:=Row.rlst [iv X,iv Y,iv S,iv W,iv H,MV.va 2 0 n 15,MV.va 1 0 nc 1],ty:=90 },some { row:=Row.recs [some IntKind.i64] cs,ty:=2 },some { row:=Row.rrecs [some IntKind.i64,some IntKind.i64,some IntKind.i64,some IntKind.i64,some IntKind.i64,some IntKind.i64,some IntKind.i64,some IntKind.i64,some IntKind.i64,some IntKind.i64,some IntKind.i64,some IntKind.i64,some IntKind.i64,some IntKind.i64,some IntKind.i64] it,ty:=39 },bx]:=by kernel_rfl
def gridP (it:List (List Int)) (X Y S W left right:Int):Nat → Int → List (List Int) → List (List Int)
 | 0,_,cs => cs
 | d + 1,row,cs => gridP it X Y S W left right d (row + 1) (rowP it X Y S W row (right - left).toNat left cs)
theorem gridP_len (it:List (List Int)) (X Y S W left right:Int):∀ (d:Nat) (row:Int) (cs:List (List Int)),(gridP it X Y S W left right d row cs).length = cs.length
 | 0,_,_ => rfl
 | d + 1,row,cs => by rw [gridP,gridP_len it X Y S W left right d,rowP_len]
section
variable (it:List (List Int)) (bx:Option Blk) (left right top bottom X Y S W H:Int) (n nc:Nat)
theorem out_loop (hn:it.length = n) (h1:it.length ≤ 1000) (hW:0 ≤ W) (hl:0 ≤ left) (hlr:left ≤ right) (hrW:right ≤ W) (hbW:bottom * W ≤ nc) (hnc:nc ≤ 1000000) (hb0:bottom ≤ 1000000) {tm:List MV} {row:Int} {cs:List (List Int)} {q:Nat}
  (h:IsTO tm left right top bottom row) (hr0:0 ≤ row) (hr:row ≤ bottom) (hcs:cs.length = nc) :
  XR Try.prog A3.env (cut c56 [1,1,1,0,1,0]) tm (MpA it bx X Y S W H n nc cs ++ List.replicate q none) (fun e tm' m' => e = .exit 0 ∧ IsTO tm' left right top bottom bottom ∧ ∃ q',m' = MpA it bx X Y S W H n nc (gridP it X Y S W left right (bottom - row).toNat row cs) ++ List.replicate q' none):=by
 have e:cut c56 [1,1,1,0,1,0] = .loop (.seq (cut c56 [1,1,1,0,1,0,0,0]) (.seq (.block 1 (.seq (cut c56 [1,1,1,0,1,0,0,1,0,0,0]) (.block 2 (cut c56 [1,1,1,0,1,0,0,1,0,0,1,0])))) (cut c56 [1,1,1,0,1,0,0,1,1]))):=by kernel_rfl
 refine XR.cast e ?_
 refine XR.loop (fun j tm m => ∃ (row':Int) (cs':List (List Int)) (q':Nat),IsTO tm left right top bottom row' ∧ m = MpA it bx X Y S W H n nc cs' ++ List.replicate q' none ∧ 0 ≤ row' ∧ row' ≤ bottom ∧ cs'.length = nc ∧ j = (bottom - row').toNat ∧
  gridP it X Y S W left right (bottom - row').toNat row' cs' = gridP it X Y S W left right (bottom - row).toNat row cs) ?_ (j:=(bottom - row).toNat) ⟨row,cs,q,h,rfl,hr0,hr,hcs,rfl,rfl⟩
 rintro j tm m ⟨row',cs',q',g1,rfl,g2,g3,g4,rfl,g5⟩
 refine XR.trim ?_
 obtain ⟨u,rfl⟩:=g1.eq
 refine XR.seq ?_
 by_cases hlt:row' < bottom
 ·have c1:decide (row' < bottom) = true:=decide_eq_true hlt
  have hm:row' * W + W ≤ nc:=by
   have:(row' + 1) * W ≤ bottom * W:=Int.mul_le_mul_of_nonneg_right (by omega) hW
   rw [Int.add_mul,Int.one_mul] at this
   omega
  have hm0:0 ≤ row' * W:=Int.mul_nonneg g2 hW
  obtain ⟨tm1,a1,a2⟩:∃ tm',IsTO tm' left right top bottom row' ∧ ∀ kk:KE,xcode Try.prog E A3 1 (cut c56 [1,1,1,0,1,0,0,0]) (TO u left right top bottom row') (MpA it bx X Y S W H n nc cs') kk = kk .normal tm' (MpA it bx X Y S W H n nc cs'):=by
   refine And_swap ?_
   apply Exists.intro
   refine ⟨fun kk => ?_,?_⟩
   ·unfold MpA
    rw [outHead]
    simp only [c1,cond_true,Mp]
    rfl
   ·exact ⟨rfl,rfl,rfl,rfl,rfl,rfl,rfl⟩
  refine XR.of_x E_ok A3_ok mixed a2 ?_
  refine XR.seq ?_
  refine XR.block ?_
  refine XR.seq ?_
  obtain ⟨u1,rfl⟩:=a1.eq
  obtain ⟨tm2,b1,b2⟩:∃ tm',IsTM tm' left right top bottom row' left ∧ ∀ kk:KE,xcode Try.prog E A3 1 (cut c56 [1,1,1,0,1,0,0,1,0,0,0]) (TO u1 left right top bottom row') (MpA it bx X Y S W H n nc cs') kk = kk .normal tm' (MpA it bx X Y S W H n nc cs'):=by
   refine And_swap ?_
   apply Exists.intro
   refine ⟨fun kk => ?_,?_⟩
   ·unfold MpA
    rw [outInit]
    simp only [Mp]
    rfl
   ·exact ⟨rfl,rfl,rfl,rfl,rfl,rfl,rfl,rfl⟩
  refine XR.of_x E_ok A3_ok mixed b2 ?_
  refine XR.block ?_
  have hin:=in_loop it bx left right top bottom X Y S W H n nc row' (cs:=cs') (q:=0) hn h1 hm0 hl (by omega) hnc b1 hl hlr g4
  simp only [List.replicate_zero,List.append_nil] at hin
  refine hin.mono ?_
  rintro e1 tm3 m3 ⟨rfl,d1,q3,rfl⟩
  simp only [if_true]
  refine XR.trim ?_
  obtain ⟨u3,rfl⟩:=d1.eq
  obtain ⟨tm4,f1,f2⟩:∃ tm',IsTM tm' left right top bottom (row' + 1) right ∧ ∀ kk:KE,xcode Try.prog E A3 1 (cut c56 [1,1,1,0,1,0,0,1,1]) (TM u3 left right top bottom row' right) (MpA it bx X Y S W H n nc (rowP it X Y S W row' (right - left).toNat left cs')) kk = kk .normal tm' (MpA it bx X Y S W H n nc (rowP it X Y S W row' (right - left).toNat left cs')):=by
   have hw:w6 (row' + 1) = row' + 1:=w6_id (by omega) (by omega)
   refine And_swap ?_
   apply Exists.intro
   refine ⟨fun kk => ?_,?_⟩
   ·unfold MpA
    rw [outNext]
    simp only [hw,Mp]
    rfl
   ·exact ⟨rfl,rfl,rfl,rfl,rfl,rfl,rfl,rfl⟩
  refine XR.of_x E_ok A3_ok mixed f2 ?_
  refine ⟨(bottom - (row' + 1)).toNat,by omega,row' + 1,rowP it X Y S W row' (right - left).toNat left cs',0,f1.o,by simp,by omega,by omega,by rw [rowP_len]; exact g4,rfl,?_⟩
  rw [← g5]
  have:(bottom - row').toNat = (bottom - (row' + 1)).toNat + 1:=by omega
  rw [this,gridP]
 ·have c1:decide (row' < bottom) = false:=decide_eq_false hlt
  obtain ⟨tm1,a1,a2⟩:∃ tm',IsTO tm' left right top bottom row' ∧ ∀ kk:KE,xcode Try.prog E A3 1 (cut c56 [1,1,1,0,1,0,0,0]) (TO u left right top bottom row') (MpA it bx X Y S W H n nc cs') kk = kk (.exit 0) tm' (MpA it bx X Y S W H n nc cs'):=by
   refine And_swap ?_
   apply Exists.intro
   refine ⟨fun kk => ?_,?_⟩
   ·unfold MpA
    rw [outHead]
    simp only [c1,cond_false,Mp]
    rfl
   ·exact ⟨rfl,rfl,rfl,rfl,rfl,rfl,rfl⟩
  refine XR.of_x E_ok A3_ok mixed a2 ?_
  have hb:row' = bottom:=by omega
  subst hb
  refine ⟨rfl,a1,0,?_⟩
  have:(row' - row').toNat = 0:=by omega
  rw [this,gridP] at g5
  rw [← g5]
  simp
end
end Go.Proofs.Ytppklhfiajjhmaa.Ti
end
section
namespace Go.Proofs.Ytppklhfiajjhmaa.Ti
open Go Go.RowKit Go.Proofs.Ytppklhfiajjhmaa.Y
set_option linter.unusedVariables false
set_option linter.unusedSimpArgs false
def TB (u:Nat → MV) (left right:MV):List MV :=
 [.ptr 0 0,u 1,u 2,.ptr 3 0,u 4,left,right] ++ (List.range 122).map (fun i => u (i + 7))
structure IsTB (tm:List MV) (left right:MV):Prop where
 len:tm.length = 129
 h0:tm[0]? = some (.ptr 0 0)
 h3:tm[3]? = some (.ptr 3 0)
 h5:tm[5]? = some left
 h6:tm[6]? = some right
theorem IsTB.eq {tm:List MV} {left right:MV} (h:IsTB tm left right):∃ u,tm = TB u left right:=by
 refine ⟨fun i => tm.getD i (.val undef),list_eq (p:=[.ptr 0 0,_,_,.ptr 3 0,_,left,right]) h.len (by simp) (fun i hi => ?_)⟩
 match i,hi with
 | 0,_ => exact h.h0
 | 1,_ => exact get_u h.len (by omega)
 | 2,_ => exact get_u h.len (by omega)
 | 3,_ => exact h.h3
 | 4,_ => exact get_u h.len (by omega)
 | 5,_ => exact h.h5
 | 6,_ => exact h.h6
def TD (u:Nat → MV) (left right top bottom:Int):List MV :=
 [.ptr 0 0,u 1,u 2,u 3,u 4,iv left,iv right,iv top,iv bottom] ++ (List.range 120).map (fun i => u (i + 9))
structure IsTD (tm:List MV) (left right top bottom:Int):Prop where
 len:tm.length = 129
 h0:tm[0]? = some (.ptr 0 0)
 h5:tm[5]? = some (iv left)
 h6:tm[6]? = some (iv right)
 h7:tm[7]? = some (iv top)
 h8:tm[8]? = some (iv bottom)
theorem IsTD.eq {tm:List MV} {left right top bottom:Int} (h:IsTD tm left right top bottom):∃ u,tm = TD u left right top bottom:=by
 refine ⟨fun i => tm.getD i (.val undef),list_eq (p:=[.ptr 0 0,_,_,_,_,iv left,iv right,iv top,iv bottom]) h.len (by simp) (fun i hi => ?_)⟩
 match i,hi with
 | 0,_ => exact h.h0
 | 1,_ => exact get_u h.len (by omega)
 | 2,_ => exact get_u h.len (by omega)
 | 3,_ => exact get_u h.len (by omega)
 | 4,_ => exact get_u h.len (by omega)
 | 5,_ => exact h.h5
 | 6,_ => exact h.h6
 | 7,_ => exact h.h7
 | 8,_ => exact h.h8
set_option maxRecDepth 100000 in
theorem pR0 (x0 y0 x1 y1 X Y S W H:Int) (n nc:Nat) (cs it:List (List Int)) (kk:KE):xcode Try.prog E A3 1 (cut c56 [0]) ([.ptr 0 0,.agg [iv x0,iv y0,iv x1,iv y1]] ++ List.replicate 127 (.val undef)) (Mp X Y S W H (.va 2 0 n 15) nc cs [some ⟨.rrecs (i64s 15) it,39⟩]) kk =
  kk XE.normal [MV.ptr 0 0,MV.agg [iv x0,iv y0,iv x1,iv y1],MV.val (Value.tuple { toList:=[] }),MV.ptr 3 0,iv 0,MV.val (Value.tuple { toList:=[] }),MV.val (Value.tuple { toList:=[] }),MV.val (Value.tuple { toList:=[] }),MV.val (Value.tuple { toList:=[] }),MV.val (Value.tuple { toList:=[] }),MV.val (Value.tuple { toList:=[] }),MV.val (Value.tuple { toList:=[] }),MV.val (Value.tuple { toList:=[] }),MV.val (Value.tuple { toList:=[] }),MV.val (Value.tuple { toList:=[] }),MV.val (Value.tuple { toList:=[] }),MV.val (Value.tuple { toList:=[] }),MV.val (Value.tuple { toList:=[] }),MV.val (Value.tuple { toList:=[] }),MV.val (Value.tuple { toList:=[] }),MV.val (Value.tuple { toList:=[] }),MV.val (Value.tuple { toList:=[] }),MV.val (Value.tuple { toList:=[] }),MV.val (Value.tuple { toList:=[] }),MV.val (Value.tuple { toList:=[] }),MV.val (Value.tuple { toList:=[] }),MV.val (Value.tuple { toList:=[] }),MV.val (Value.tuple { toList:=[] }),MV.val (Value.tuple { toList:=[] }),MV.val (Value.tuple { toList:=[] }),MV.val (Value.tuple { toList:=[] }),MV.val (Value.tuple { toList:=[] }),MV.val (Value.tuple { toList:=[] }),MV.val (Value.tuple { toList:=[] }),MV.val (Value.tuple { toList:=[] }),MV.val (Value.tuple { toList:=[] }),MV.val (Value.tuple { toList:=[] }),MV.val (Value.tuple { toList:=[] }),MV.val (Value.tuple { toList:=[] }),MV.val (Value.tuple { toList:=[] }),MV.val (Value.tuple { toList:=[] }),MV.val (Value.tuple { toList:=[] }),MV.val (Value.tuple { toList:=[] }),MV.val (Value.tuple { toList:=[] }),MV.val (Value.tuple { toList:=[] }),MV.val (Value.tuple { toList:=[] }),MV.val (Value.tuple { toList:=[] }),MV.val (Value.tuple { toList:=[] }),MV.val (Value.tuple { toList:=[] }),MV.val (Value.tuple { toList:=[] }),MV.val (Value.tuple { toList:=[] }),MV.val (Value.tuple { toList:=[] }),MV.val (Value.tuple { toList:=[] }),MV.val (Value.tuple { toList:=[] }),MV.val (Value.tuple { toList:=[] }),MV.val (Value.tuple { toList:=[] }),MV.val (Value.tuple { toList:=[] }),MV.val (Value.tuple { toList:=[] }),MV.val (Value.tuple { toList:=[] }),MV.val (Value.tuple { toList:=[] }),MV.val (Value.tuple { toList:=[] }),MV.val (Value.tuple { toList:=[] }),MV.val (Value.tuple { toList:=[] }),MV.val (Value.tuple { toList:=[] }),MV.val (Value.tuple { toList:=[] }),MV.val (Value.tuple { toList:=[] }),MV.val (Value.tuple { toList:=[] }),MV.val (Value.tuple { toList:=[] }),MV.val (Value.tuple { toList:=[] }),MV.val (Value.tuple { toList:=[] }),MV.val (Value.tuple { toList:=[] }),MV.val (Value.tuple { toList:=[] }),MV.val (Value.tuple { toList:=[] }),MV.val (Value.tuple { toList:=[] }),MV.val (Value.tuple { toList:=[] }),MV.val (Value.tuple { toList:=[] }),MV.val (Value.tuple { toList:=[] }),MV.val (Value.tuple { toList:=[] }),MV.val (Value.tuple { toList:=[] }),MV.val (Value.tuple { toList:=[] }),MV.val (Value.tuple { toList:=[] }),MV.val (Value.tuple { toList:=[] }),MV.val (Value.tuple { toList:=[] }),MV.val (Value.tuple { toList:=[] }),MV.val (Value.tuple { toList:=[] }),MV.val (Value.tuple { toList:=[] }),MV.val (Value.tuple { toList:=[] }),MV.val (Value.tuple { toList:=[] }),MV.val (Value.tuple { toList:=[] }),MV.val (Value.tuple { toList:=[] }),MV.val (Value.tuple { toList:=[] }),MV.val (Value.tuple { toList:=[] }),MV.val (Value.tuple { toList:=[] }),MV.val (Value.tuple { toList:=[] }),MV.val (Value.tuple { toList:=[] }),MV.val (Value.tuple { toList:=[] }),MV.val (Value.tuple { toList:=[] }),MV.val (Value.tuple { toList:=[] }),MV.val (Value.tuple { toList:=[] }),MV.val (Value.tuple { toList:=[] }),MV.val (Value.tuple { toList:=[] }),MV.val (Value.tuple { toList:=[] }),MV.val (Value.tuple { toList:=[] }),MV.val (Value.tuple { toList:=[] }),MV.val (Value.tuple { toList:=[] }),MV.val (Value.tuple { toList:=[] }),MV.val (Value.tuple { toList:=[] }),MV.val (Value.tuple { toList:=[] }),MV.val (Value.tuple { toList:=[] }),MV.val (Value.tuple { toList:=[] }),MV.val (Value.tuple { toList:=[] }),MV.val (Value.tuple { toList:=[] }),MV.val (Value.tuple { toList:=[] }),MV.val (Value.tuple { toList:=[] }),MV.val (Value.tuple { toList:=[] }),MV.val (Value.tuple { toList:=[] }),MV.val (Value.tuple { toList:=[] }),MV.val (Value.tuple { toList:=[] }),MV.val (Value.tuple { toList:=[] }),MV.val (Value.tuple { toList:=[] }),MV.val (Value.tuple { toList:=[] }),MV.val (Value.tuple { toList:=[] }),MV.val (Value.tuple { toList:=[] }),MV.val (Value.tuple { toList:=[] }),MV.val (Value.tuple { toList:=[] }),MV.val (Value.tuple { toList:=[] }),MV.val (Value.tuple { toList:=[] }),MV.val (Value.tuple { toList:=[] }),MV.val (Value.tuple { toList:=[] })] [some { row:=Row.rlst [iv X,iv Y,iv S,iv W,iv H,MV.va 2 0 n 15,MV.va 1 0 nc 1],ty:=90 },some { row:=Row.recs [some IntKind.i64] cs,ty:=2 },some { row:=Row.rrecs [some IntKind.i64,some IntKind.i64,some IntKind.i64,some IntKind.i64,some IntKind.i64,some IntKind.i64,some IntKind.i64,some IntKind.i64,some IntKind.i64,some IntKind.i64,some IntKind.i64,some IntKind.i64,some IntKind.i64,some IntKind.i64,some IntKind.i64] it,ty:=39 },some { row:=Row.lst [iv x0,iv y0,iv x1,iv y1],ty:=37 }]:=by kernel_rfl
set_option maxRecDepth 100000 in
theorem pR1 (u:Nat → MV) (l r:MV) (x0 y0 x1 y1 X Y S W H:Int) (n nc:Nat) (cs it:List (List Int)) (kk:KE):xcode Try.prog E A3 1 (cut c56 [1,0]) (TB u l r) (Mp X Y S W H (.va 2 0 n 15) nc cs [some ⟨.rrecs (i64s 15) it,39⟩,some ⟨.lst [iv x0,iv y0,iv x1,iv y1],37⟩]) kk =
  bif !decide (S = 0) then kk XE.normal [MV.ptr 0 0,u 1,u 2,MV.ptr 3 0,u 4,iv (loI X x0 S W),iv (hiI X x0 x1 S W),u 7,u 8,u 9,u 10,u 11,u 12,u 13,MV.tup [iv (loI X x0 S W),iv (hiI X x0 x1 S W)],MV.ptr 0 0,MV.ptr 0 0,MV.ptr 0 0,MV.ptr 0 0,MV.ptr 0 0,iv X,MV.ptr 3 0,iv x0,MV.ptr 3 2,iv x1,MV.ptr 0 0,MV.ptr 0 0,MV.ptr 0 0,MV.ptr 0 3,iv W,MV.tup [iv (loI X x0 S W),iv (hiI X x0 x1 S W)],iv (loI X x0 S W),iv (hiI X x0 x1 S W),u 33,u 34,u 35,u 36,u 37,u 38,u 39,u 40,u 41,u 42,u 43,u 44,u 45,u 46,u 47,u 48,u 49,u 50,u 51,u 52,u 53,u 54,u 55,u 56,u 57,u 58,u 59,u 60,u 61,u 62,u 63,u 64,u 65,u 66,u 67,u 68,u 69,u 70,u 71,u 72,u 73,u 74,u 75,u 76,u 77,u 78,u 79,u 80,u 81,u 82,u 83,u 84,u 85,u 86,u 87,u 88,u 89,u 90,u 91,u 92,u 93,u 94,u 95,u 96,u 97,u 98,u 99,u 100,u 101,u 102,u 103,u 104,u 105,u 106,u 107,u 108,u 109,u 110,u 111,u 112,u 113,u 114,u 115,u 116,u 117,u 118,u 119,u 120,u 121,u 122,u 123,u 124,u 125,u 126,u 127,u 128] [some { row:=Row.rlst [iv X,iv Y,iv S,iv W,iv H,MV.va 2 0 n 15,MV.va 1 0 nc 1],ty:=90 },some { row:=Row.recs [some IntKind.i64] cs,ty:=2 },some { row:=Row.rrecs [some IntKind.i64,some IntKind.i64,some IntKind.i64,some IntKind.i64,some IntKind.i64,some IntKind.i64,some IntKind.i64,some IntKind.i64,some IntKind.i64,some IntKind.i64,some IntKind.i64,some IntKind.i64,some IntKind.i64,some IntKind.i64,some IntKind.i64] it,ty:=39 },some { row:=Row.lst [iv x0,iv y0,iv x1,iv y1],ty:=37 },none,none,none,none,none,none,none,none,none,none,none,none,none,none,none,none,none,none,none,none,none] else none:=by kernel_rfl
set_option maxRecDepth 100000 in
theorem pR2 (u:Nat → MV) (l r:MV) (x0 y0 x1 y1 X Y S W H:Int) (n nc:Nat) (cs it:List (List Int)) (kk:KE):xcode Try.prog E A3 1 (cut c56 [1,1,0]) (TB u l r) (Mp X Y S W H (.va 2 0 n 15) nc cs [some ⟨.rrecs (i64s 15) it,39⟩,some ⟨.lst [iv x0,iv y0,iv x1,iv y1],37⟩]) kk =
  bif !decide (S = 0) then kk XE.normal [MV.ptr 0 0,u 1,u 2,MV.ptr 3 0,u 4,l,r,iv (loI Y y0 S H),iv (hiI Y y0 y1 S H),u 9,u 10,u 11,u 12,u 13,u 14,u 15,u 16,u 17,u 18,u 19,u 20,u 21,u 22,u 23,u 24,u 25,u 26,u 27,u 28,u 29,u 30,u 31,u 32,MV.tup [iv (loI Y y0 S H),iv (hiI Y y0 y1 S H)],MV.ptr 0 0,MV.ptr 0 0,MV.ptr 0 0,MV.ptr 0 0,MV.ptr 0 1,iv Y,MV.ptr 3 1,iv y0,MV.ptr 3 3,iv y1,MV.ptr 0 0,MV.ptr 0 0,MV.ptr 0 0,MV.ptr 0 4,iv H,MV.tup [iv (loI Y y0 S H),iv (hiI Y y0 y1 S H)],iv (loI Y y0 S H),iv (hiI Y y0 y1 S H),u 52,u 53,u 54,u 55,u 56,u 57,u 58,u 59,u 60,u 61,u 62,u 63,u 64,u 65,u 66,u 67,u 68,u 69,u 70,u 71,u 72,u 73,u 74,u 75,u 76,u 77,u 78,u 79,u 80,u 81,u 82,u 83,u 84,u 85,u 86,u 87,u 88,u 89,u 90,u 91,u 92,u 93,u 94,u 95,u 96,u 97,u 98,u 99,u 100,u 101,u 102,u 103,u 104,u 105,u 106,u 107,u 108,u 109,u 110,u 111,u 112,u 113,u 114,u 115,u 116,u 117,u 118,u 119,u 120,u 121,u 122,u 123,u 124,u 125,u 126,u 127,u 128] [some { row:=Row.rlst [iv X,iv Y,iv S,iv W,iv H,MV.va 2 0 n 15,MV.va 1 0 nc 1],ty:=90 },some { row:=Row.recs [some IntKind.i64] cs,ty:=2 },some { row:=Row.rrecs [some IntKind.i64,some IntKind.i64,some IntKind.i64,some IntKind.i64,some IntKind.i64,some IntKind.i64,some IntKind.i64,some IntKind.i64,some IntKind.i64,some IntKind.i64,some IntKind.i64,some IntKind.i64,some IntKind.i64,some IntKind.i64,some IntKind.i64] it,ty:=39 },some { row:=Row.lst [iv x0,iv y0,iv x1,iv y1],ty:=37 },none,none,none,none,none,none,none,none,none,none,none,none,none,none,none,none,none,none,none,none,none] else none:=by kernel_rfl
set_option maxRecDepth 100000 in
theorem pR3 (u:Nat → MV) (left right top bottom X Y S W H:Int) (n nc:Nat) (cs it:List (List Int)) (bx:Option Blk) (kk:KE):xcode Try.prog E A3 1 (cut c56 [1,1,1,0,0]) (TD u left right top bottom) (Mp X Y S W H (.va 2 0 n 15) nc cs [some ⟨.rrecs (i64s 15) it,39⟩,bx]) kk =
  kk XE.normal [MV.ptr 0 0,u 1,u 2,u 3,u 4,iv left,iv right,iv top,iv bottom,iv top,u 10,u 11,u 12,u 13,u 14,u 15,u 16,u 17,u 18,u 19,u 20,u 21,u 22,u 23,u 24,u 25,u 26,u 27,u 28,u 29,u 30,u 31,u 32,u 33,u 34,u 35,u 36,u 37,u 38,u 39,u 40,u 41,u 42,u 43,u 44,u 45,u 46,u 47,u 48,u 49,u 50,u 51,iv top,u 53,u 54,u 55,u 56,u 57,u 58,u 59,u 60,u 61,u 62,u 63,u 64,u 65,u 66,u 67,u 68,u 69,u 70,u 71,u 72,u 73,u 74,u 75,u 76,u 77,u 78,u 79,u 80,u 81,u 82,u 83,u 84,u 85,u 86,u 87,u 88,u 89,u 90,u 91,u 92,u 93,u 94,u 95,u 96,u 97,u 98,u 99,u 100,u 101,u 102,u 103,u 104,u 105,u 106,u 107,u 108,u 109,u 110,u 111,u 112,u 113,u 114,u 115,u 116,u 117,u 118,u 119,u 120,u 121,u 122,u 123,u 124,u 125,u 126,u 127,u 128] [some { row:=Row.rlst [iv X,iv Y,iv S,iv W,iv H,MV.va 2 0 n 15,MV.va 1 0 nc 1],ty:=90 },some { row:=Row.recs [some IntKind.i64] cs,ty:=2 },some { row:=Row.rrecs [some IntKind.i64,some IntKind.i64,some IntKind.i64,some IntKind.i64,some IntKind.i64,some IntKind.i64,some IntKind.i64,some IntKind.i64,some IntKind.i64,some IntKind.i64,some IntKind.i64,some IntKind.i64,some IntKind.i64,some IntKind.i64,some IntKind.i64] it,ty:=39 },bx]:=by kernel_rfl
set_option maxRecDepth 100000 in
theorem pR14 (u:Nat → MV) (left right top bottom row X Y S W H:Int) (n nc:Nat) (cs it:List (List Int)) (bx:Option Blk) (kk:KE):xcode Try.prog E A3 1 (cut c56 [1,1,1,1]) (TO u left right top bottom row) (Mp X Y S W H (.va 2 0 n 15) nc cs [some ⟨.rrecs (i64s 15) it,39⟩,bx]) kk =
  kk XE.ret [MV.ptr 0 0,u 1,u 2,u 3,iv (IntKind.wrap IntKind.i64 (IntKind.wrap IntKind.i64 (right - left) * IntKind.wrap IntKind.i64 (bottom - top))),iv left,iv right,iv top,iv bottom,iv row,u 10,u 11,u 12,u 13,u 14,u 15,u 16,u 17,u 18,u 19,u 20,u 21,u 22,u 23,u 24,u 25,u 26,u 27,u 28,u 29,u 30,u 31,u 32,u 33,u 34,u 35,u 36,u 37,u 38,u 39,u 40,u 41,u 42,u 43,u 44,u 45,u 46,u 47,u 48,u 49,u 50,u 51,u 52,u 53,u 54,u 55,u 56,u 57,u 58,u 59,u 60,u 61,u 62,u 63,u 64,u 65,u 66,u 67,u 68,u 69,u 70,u 71,u 72,u 73,u 74,u 75,u 76,u 77,u 78,u 79,u 80,u 81,u 82,u 83,u 84,u 85,u 86,u 87,u 88,u 89,u 90,u 91,u 92,u 93,u 94,u 95,u 96,u 97,u 98,u 99,u 100,u 101,u 102,u 103,u 104,u 105,u 106,u 107,u 108,u 109,u 110,u 111,u 112,u 113,u 114,u 115,u 116,u 117,u 118,u 119,u 120,u 121,iv right,iv left,iv (IntKind.wrap IntKind.i64 (right - left)),iv bottom,iv top,iv (IntKind.wrap IntKind.i64 (bottom - top)),iv (IntKind.wrap IntKind.i64 (IntKind.wrap IntKind.i64 (right - left) * IntKind.wrap IntKind.i64 (bottom - top)))] [some { row:=Row.rlst [iv X,iv Y,iv S,iv W,iv H,MV.va 2 0 n 15,MV.va 1 0 nc 1],ty:=90 },some { row:=Row.recs [some IntKind.i64] cs,ty:=2 },some { row:=Row.rrecs [some IntKind.i64,some IntKind.i64,some IntKind.i64,some IntKind.i64,some IntKind.i64,some IntKind.i64,some IntKind.i64,some IntKind.i64,some IntKind.i64,some IntKind.i64,some IntKind.i64,some IntKind.i64,some IntKind.i64,some IntKind.i64,some IntKind.i64] it,ty:=39 },bx]:=by kernel_rfl
section
variable (x0 y0 x1 y1 X Y S W H:Int) (n nc:Nat) (cs it:List (List Int))
def MpI (cs:List (List Int)):Mem:=Mp X Y S W H (.va 2 0 n 15) nc cs [some ⟨.rrecs (i64s 15) it,39⟩]
def MpT (cs:List (List Int)):Mem:=Mp X Y S W H (.va 2 0 n 15) nc cs [some ⟨.rrecs (i64s 15) it,39⟩,some ⟨.lst [iv x0,iv y0,iv x1,iv y1],37⟩]
theorem c56_eq:c56 = .seq (cut c56 [0]) (.seq (cut c56 [1,0]) (.seq (cut c56 [1,1,0]) (.seq (.seq (cut c56 [1,1,1,0,0]) (.block 0 (cut c56 [1,1,1,0,1,0]))) (cut c56 [1,1,1,1])))):=by kernel_rfl
theorem p0:∃ tm',IsTB tm' (.val undef) (.val undef) ∧ ∀ kk:KE,xcode Try.prog E A3 1 (cut c56 [0]) ([.ptr 0 0,.agg [iv x0,iv y0,iv x1,iv y1]] ++ List.replicate 127 (.val undef)) (MpI X Y S W H n nc it cs) kk = kk .normal tm' (MpT x0 y0 x1 y1 X Y S W H n nc it cs):=by
 refine And_swap ?_
 apply Exists.intro
 refine ⟨fun kk => ?_,?_⟩
 ·unfold MpI
  rw [pR0]
  rfl
 ·exact ⟨rfl,rfl,rfl,rfl,rfl⟩
theorem p1 (u:Nat → MV) (l r:MV) (hS:S ≠ 0):∃ tm',IsTB tm' (iv (loI X x0 S W)) (iv (hiI X x0 x1 S W)) ∧ ∀ kk:KE,xcode Try.prog E A3 1 (cut c56 [1,0]) (TB u l r) (MpT x0 y0 x1 y1 X Y S W H n nc it cs) kk = kk .normal tm' (MpT x0 y0 x1 y1 X Y S W H n nc it cs ++ List.replicate 21 none):=by
 have c1:(!decide (S = 0)) = true:=by simp [hS]
 refine And_swap ?_
 apply Exists.intro
 refine ⟨fun kk => ?_,?_⟩
 ·unfold MpT
  rw [pR1]
  simp only [c1,cond_true,Mp]
  rfl
 ·exact ⟨rfl,rfl,rfl,rfl,rfl⟩
theorem p2 (u:Nat → MV) (left right:Int) (hS:S ≠ 0):∃ tm',IsTD tm' left right (loI Y y0 S H) (hiI Y y0 y1 S H) ∧ ∀ kk:KE,xcode Try.prog E A3 1 (cut c56 [1,1,0]) (TB u (iv left) (iv right)) (MpT x0 y0 x1 y1 X Y S W H n nc it cs) kk = kk .normal tm' (MpT x0 y0 x1 y1 X Y S W H n nc it cs ++ List.replicate 21 none):=by
 have c1:(!decide (S = 0)) = true:=by simp [hS]
 refine And_swap ?_
 apply Exists.intro
 refine ⟨fun kk => ?_,?_⟩
 ·unfold MpT
  rw [pR2]
  simp only [c1,cond_true,Mp]
  rfl
 ·exact ⟨rfl,rfl,rfl,rfl,rfl,rfl⟩
theorem p3 (u:Nat → MV) (left right top bottom:Int):∃ tm',IsTO tm' left right top bottom top ∧ ∀ kk:KE,xcode Try.prog E A3 1 (cut c56 [1,1,1,0,0]) (TD u left right top bottom) (MpT x0 y0 x1 y1 X Y S W H n nc it cs) kk = kk .normal tm' (MpT x0 y0 x1 y1 X Y S W H n nc it cs):=by
 refine And_swap ?_
 apply Exists.intro
 refine ⟨fun kk => ?_,?_⟩
 ·unfold MpT
  rw [pR3]
  rfl
 ·exact ⟨rfl,rfl,rfl,rfl,rfl,rfl,rfl⟩
theorem p14 (u:Nat → MV) (left right top bottom row:Int):∃ tm',(∀ m:Mem,xres Try.prog tm' m Try.f56.results.toList = some [iv (w6 (w6 (right - left) * w6 (bottom - top)))]) ∧ ∀ kk:KE,xcode Try.prog E A3 1 (cut c56 [1,1,1,1]) (TO u left right top bottom row) (MpT x0 y0 x1 y1 X Y S W H n nc it cs) kk = kk .ret tm' (MpT x0 y0 x1 y1 X Y S W H n nc it cs):=by
 refine And_swap ?_
 apply Exists.intro
 refine ⟨fun kk => ?_,?_⟩
 ·unfold MpT
  rw [pR14]
  rfl
 ·intro m; rfl
theorem paint_x (hn:it.length = n) (h1:it.length ≤ 1000) (hS:S ≠ 0) (hW:0 ≤ W) (hWn:H * W ≤ nc) (hH:H ≤ 1000000) (hnc:nc ≤ 1000000) (hcs:cs.length = nc)
  (ha:0 ≤ loI X x0 S W) (hb:0 ≤ loI Y y0 S H) :
  XF Try.prog A3.env 56 [.ptr 0 0,.agg [iv x0,iv y0,iv x1,iv y1]] (MpI X Y S W H n nc it cs) (fun v m' =>
   v = iv (w6 (w6 (hiI X x0 x1 S W - loI X x0 S W) * w6 (hiI Y y0 y1 S H - loI Y y0 S H))) ∧
   m' = MpI X Y S W H n nc it (gridP it X Y S W (loI X x0 S W) (hiI X x0 x1 S W) (hiI Y y0 y1 S H - loI Y y0 S H).toNat (loI Y y0 S H) cs)):=by
 have hlr:loI X x0 S W ≤ hiI X x0 x1 S W:=by unfold hiI maxI; unfold loI; split <;> omega
 have htb:loI Y y0 S H ≤ hiI Y y0 y1 S H:=by unfold hiI maxI; unfold loI; split <;> omega
 have hrW:hiI X x0 x1 S W ≤ W:=by unfold hiI maxI minI; split <;> split <;> omega
 have hbH:hiI Y y0 y1 S H ≤ H:=by unfold hiI maxI minI; split <;> split <;> omega
 obtain ⟨left,hleft⟩:∃ x,x = loI X x0 S W:=⟨_,rfl⟩
 obtain ⟨right,hright⟩:∃ x,x = hiI X x0 x1 S W:=⟨_,rfl⟩
 obtain ⟨top,htop⟩:∃ x,x = loI Y y0 S H:=⟨_,rfl⟩
 obtain ⟨bottom,hbottom⟩:∃ x,x = hiI Y y0 y1 S H:=⟨_,rfl⟩
 refine XF.forget (XF.of_code Try.func56 (c:=c56) (by kernel_rfl) ?_)
 refine XR.cast c56_eq ?_
 obtain ⟨tm0,a1,a2⟩:=p0 x0 y0 x1 y1 X Y S W H n nc cs it
 refine XR.seq_x E_ok A3_ok mixed a2 ?_
 obtain ⟨u0,rfl⟩:=a1.eq
 obtain ⟨tm1,b1,b2⟩:=p1 x0 y0 x1 y1 X Y S W H n nc cs it u0 (.val undef) (.val undef) hS
 refine XR.seq_x E_ok A3_ok mixed b2 ?_
 refine XR.trim ?_
 rw [← hleft,← hright] at b1 ⊢
 obtain ⟨u1,rfl⟩:=b1.eq
 obtain ⟨tm2,d1,d2⟩:=p2 x0 y0 x1 y1 X Y S W H n nc cs it u1 left right hS
 refine XR.seq_x E_ok A3_ok mixed d2 ?_
 refine XR.trim ?_
 rw [← htop,← hbottom] at d1 ⊢
 rw [← hleft] at ha hlr
 rw [← hright] at hlr hrW
 rw [← htop] at hb htb
 rw [← hbottom] at htb hbH
 obtain ⟨u2,rfl⟩:=d1.eq
 refine XR.seq ?_
 obtain ⟨tm3,f1,f2⟩:=p3 x0 y0 x1 y1 X Y S W H n nc cs it u2 left right top bottom
 refine XR.seq_x E_ok A3_ok mixed f2 ?_
 refine XR.block ?_
 have hbW:bottom * W ≤ nc:=by
  have:=Int.mul_le_mul_of_nonneg_right hbH hW
  omega
 have hl:=out_loop it (some ⟨.lst [iv x0,iv y0,iv x1,iv y1],37⟩) left right top bottom X Y S W H n nc (cs:=cs) (q:=0) hn h1 hW ha hlr hrW hbW hnc (by omega) f1 hb htb hcs
 simp only [List.replicate_zero,List.append_nil] at hl
 refine XR.mono hl ?_
 rintro e tm4 m4 ⟨rfl,g1,q,rfl⟩
 simp only [if_true]
 refine XR.trim ?_
 obtain ⟨u4,rfl⟩:=g1.eq
 obtain ⟨tm5,k1,k2⟩:=p14 x0 y0 x1 y1 X Y S W H n nc (gridP it X Y S W left right (bottom - top).toNat top cs) it u4 left right top bottom bottom
 refine XR.of_x E_ok A3_ok mixed k2 ?_
 refine ⟨[iv (w6 (w6 (right - left) * w6 (bottom - top)))],?_,MpI X Y S W H n nc it (gridP it X Y S W left right (bottom - top).toNat top cs),[some ⟨.lst [iv x0,iv y0,iv x1,iv y1],37⟩],rfl,Nat.le_refl _,rfl,?_,rfl,rfl⟩
 ·exact k1 _
 ·intro b k hk
  match b,hk with
  | 0,hk =>
   have e:k = ⟨.rlst [iv X,iv Y,iv S,iv W,iv H,.va 2 0 n 15,.va 1 0 nc 1],90⟩:=by injection hk with hk; injection hk with hk; exact hk.symm
   subst e
   show (true && _) = true
   simp [inbL,inb,MpI,Mp,Blk.cells]
  | 1,hk =>
   have e:k = ⟨.recs (i64s 1) (gridP it X Y S W left right (bottom - top).toNat top cs),2⟩:=by injection hk with hk; injection hk with hk; exact hk.symm
   subst e
   exact inb_recs _ _ _
  | 2,hk =>
   have e:k = ⟨.rrecs (i64s 15) it,39⟩:=by injection hk with hk; injection hk with hk; exact hk.symm
   subst e
   exact inb_recs _ _ _
  | b + 3,hk => simp [MpI,Mp] at hk
end
end Go.Proofs.Ytppklhfiajjhmaa.Ti
end
section
namespace Go.Proofs.Ytppklhfiajjhmaa.Ti
open Go Go.RowKit Go.Proofs.Ytppklhfiajjhmaa.Y
set_option linter.unusedVariables false
set_option linter.unusedSimpArgs false
def paintOk (X Y S W H:Int) (n nc:Nat) (cs it:List (List Int)) (x0 y0 x1 y1:Int):Bool :=
 decide (it.length = n ∧ it.length ≤ 1000 ∧ S ≠ 0 ∧ 0 ≤ W ∧ H * W ≤ nc ∧ H ≤ 1000000 ∧ nc ≤ 1000000 ∧ cs.length = nc ∧ 0 < nc ∧ 0 ≤ loI X x0 S W ∧ 0 ≤ loI Y y0 S H)
def paintC (X Y S W H:Int) (it:List (List Int)) (x0 y0 x1 y1:Int) (cs:List (List Int)):List (List Int) :=
 gridP it X Y S W (loI X x0 S W) (hiI X x0 x1 S W) (hiI Y y0 y1 S H - loI Y y0 S H).toNat (loI Y y0 S H) cs
def paintN (X Y S W H:Int) (x0 y0 x1 y1:Int):Int:=w6 (w6 (hiI X x0 x1 S W - loI X x0 S W) * w6 (hiI Y y0 y1 S H - loI Y y0 S H))
theorem paintC_len (X Y S W H:Int) (it:List (List Int)) (x0 y0 x1 y1:Int) (cs:List (List Int)):(paintC X Y S W H it x0 y0 x1 y1 cs).length = cs.length:=gridP_len _ _ _ _ _ _ _ _ _ _
def paintG:List MV → Mem → KM → Option Out:=fun args m k => match args with
 | [.ptr b 0,.agg [.val (.int .i64 x0),.val (.int .i64 y0),.val (.int .i64 x1),.val (.int .i64 y1)]] => match m[b]? with
  | some (some ⟨.lst [.val (.int .i64 X),.val (.int .i64 Y),.val (.int .i64 S),.val (.int .i64 W),.val (.int .i64 H),.va d 0 n 15,.va c 0 nc 1],90⟩) => match m[d]? with
   | some (some ⟨.recs sh it,39⟩) => match m[c]? with
    | some (some ⟨.recs sh1 cs,2⟩) => bif decide (sh = i64s 15) && decide (sh1 = i64s 1) && decide (b ≠ c) && decide (b ≠ d) && decide (c ≠ d) then
      bif paintOk X Y S W H n nc cs it x0 y0 x1 y1 then k (iv (paintN X Y S W H x0 y0 x1 y1)) (m.set c (some ⟨.recs (i64s 1) (paintC X Y S W H it x0 y0 x1 y1 cs),2⟩)) else none
     else none
    | _ => none
   | _ => none
  | _ => none
 | _ => none
theorem wk_recs (sh:List (Option IntKind)) (l:List (List Int)):(l.flatMap (recC sh 0)).map wk = l.flatMap (recC sh 0):=by
 have h1:∀ (sh:List (Option IntKind)) (c:Nat) (r:List Int),(recC sh c r).map wk = recC sh c r:=by
  intro sh
  induction sh with
  | nil => intro c r; rfl
  | cons a sh ih => intro c r; cases a <;> simp [recC,ih,wk]
 induction l with
 | nil => rfl
 | cons r l ih => simp only [List.flatMap_cons,List.map_append,h1,ih]
theorem recs_len (sh:List (Option IntKind)) (l:List (List Int)):(l.flatMap (recC sh 0)).length = l.length * sh.length:=by
 induction l with
 | nil => simp
 | cons r l ih => simp [List.flatMap_cons,recC_len,ih,Nat.add_mul]; omega
theorem paintG_ok:IOk Try.prog A3.env 56 paintG:=by
 intro args m k r hG base w0 σ us w hX hu hM
 unfold paintG at hG
 split at hG
 case h_2 => cases hG
 rename_i b x0 y0 x1 y1
 split at hG
 case h_2 => cases hG
 rename_i X Y S W H d n c nc hb
 split at hG
 case h_2 => cases hG
 rename_i sh it hd
 split at hG
 case h_2 => cases hG
 rename_i sh1 cs hc
 cases h1:(decide (sh = i64s 15) && decide (sh1 = i64s 1) && decide (b ≠ c) && decide (b ≠ d) && decide (c ≠ d)) with
 | false => rw [h1] at hG; cases hG
 | true =>
 rw [h1] at hG
 cases h2:paintOk X Y S W H n nc cs it x0 y0 x1 y1 with
 | false => rw [h2] at hG; cases hG
 | true =>
 rw [h2] at hG
 simp only [cond_true] at hG
 simp only [Bool.and_eq_true,decide_eq_true_eq] at h1
 obtain ⟨⟨⟨⟨rfl,rfl⟩,hbc⟩,hbd⟩,hcd⟩:=h1
 unfold paintOk at h2
 simp only [decide_eq_true_eq] at h2
 obtain ⟨q1,q2,q3,q4,q5,q6,q7,q8,q9,q10,q11⟩:=h2
 have hx:=paint_x x0 y0 x1 y1 X Y S W H n nc cs it q1 q2 q3 q4 q5 q6 q7 q8 q10 q11
 have hl:=paintC_len X Y S W H it x0 y0 x1 y1 cs
 have hu':=hu
 simp only [RVs] at hu'
 obtain ⟨u0,r0,rfl,hp,u1,r1,rfl,hr,rfl⟩:=hu'
 obtain ⟨g,hg,rfl⟩:=hp.ptr_inv
 obtain ⟨pre,cells,rest,b1,b2,b3,b4,b5⟩:=hM.blk b _ g hb hg
 have hcells:∀ (i:Nat) x,[MV.val (.int .i64 X),.val (.int .i64 Y),.val (.int .i64 S),.val (.int .i64 W),.val (.int .i64 H),.va d 0 n 15,.va c 0 nc 1][i]? = some x → ∃ u,RV σ x u:=by
  intro i x hi
  obtain ⟨u,_,hu⟩:=RVs.get i b2 hi
  exact ⟨u,hu⟩
 have hdm:0 < n → ∃ g,σ d = some g:=by
  intro hn
  obtain ⟨u,h⟩:=hcells 5 _ rfl
  simp only [RV] at h
  obtain ⟨A,cc,_,_,h3⟩:=h
  obtain ⟨g,h4,_⟩:=h3 hn
  exact ⟨g,h4⟩
 have hcm:∃ g,σ c = some g:=by
  obtain ⟨u,h⟩:=hcells 6 _ rfl
  simp only [RV] at h
  obtain ⟨A,cc,_,_,h3⟩:=h
  obtain ⟨g,h4,_⟩:=h3 q9
  exact ⟨g,h4⟩
 have hz:XFz Try.prog A3.env (fun i => i == 2 && n == 0) 56 [.ptr 0 0,.agg [iv x0,iv y0,iv x1,iv y1]] (MpI X Y S W H n nc it cs) (iv (paintN X Y S W H x0 y0 x1 y1)) (MpI X Y S W H n nc it (paintC X Y S W H it x0 y0 x1 y1 cs)):=by
  refine XF.z hx rfl ?_
  intro i k hk
  match i,hk with
  | 0,hk =>
   have e:k = ⟨.rlst [iv X,iv Y,iv S,iv W,iv H,.va 2 0 n 15,.va 1 0 nc 1],90⟩:=by injection hk with hk; injection hk with hk; exact hk.symm
   subst e
   show (true && _) = true
   simp [inbL,inb]
  | 1,hk =>
   have e:k = ⟨.recs (i64s 1) (paintC X Y S W H it x0 y0 x1 y1 cs),2⟩:=by injection hk with hk; injection hk with hk; exact hk.symm
   subst e
   exact inb_recs _ _ _
  | 2,hk =>
   have e:k = ⟨.rrecs (i64s 15) it,39⟩:=by injection hk with hk; injection hk with hk; exact hk.symm
   subst e
   exact inb_recs _ _ _
  | i + 3,hk => simp [MpI,Mp] at hk
 have hfr:=frameZ (rs:=[b,c,d]) true_stable hz (base:=base) (w0:=w0) (σ:=σ) (w:=w) (m:=m) (args:=[.ptr b 0,.agg [iv x0,iv y0,iv x1,iv y1]]) (by simp [hbc,hbd,hcd]) ?_ (fun h => h) ?_ ?_ ?_ hX hu hM ?_
 ·refine Calls.mono hfr ?_
  rintro e w' ⟨v,m',σ',u,⟨rfl,rfl⟩,h3,h4,h5,h6⟩
  refine ⟨_,_,σ',u,?_,h3,h4,h5,h6⟩
  rw [← hG]
  simp only [frameM,MpI,Mp,upd,Blk.ro,cond_true,cond_false,List.cons_append,List.nil_append,List.length_cons,List.length_nil,List.drop_succ_cons,List.drop_zero,List.map_nil,List.append_nil,renB,ren,iv,List.drop]
 ·intro i k0 hk
  match i,hk with
  | 0,_ => simp
  | 1,_ => simp
  | 2,_ => simp
  | i + 3,hk => simp [MpI,Mp] at hk
 ·intro i b' hb'
  match i,hb' with
  | 0,hb' =>
   simp only [List.getElem?_cons_zero,Option.some.injEq] at hb'
   subst hb'
   exact ⟨_,_,hb,rfl,rfl,rfl,fun h => by cases h⟩
  | 1,hb' =>
   have e:c = b':=by simpa using hb'
   subst e
   refine ⟨_,_,hc,rfl,rfl,?_,fun _ => ⟨rfl,?_⟩⟩
   ·show (cs.flatMap (recC (i64s 1) 0)).map wk = renL _ (cs.flatMap (recC (i64s 1) 0))
    rw [wk_recs,renL_recs]
   ·show cs.flatMap (recC (i64s 1) 0) ≠ []
    intro e
    have:=recs_len (i64s 1) cs
    rw [e] at this
    simp [i64s] at this
    omega
  | 2,hb' =>
   have e:d = b':=by simpa using hb'
   subst e
   refine ⟨_,_,hd,rfl,rfl,?_,fun h => by cases h⟩
   show (it.flatMap (recC (i64s 15) 0)).map wk = renL _ (it.flatMap (recC (i64s 15) 0))
   rw [wk_recs,renL_recs]
  | i + 3,hb' => simp at hb'
 ·intro i k0 hk
  match i,hk with
  | 0,hk => exact ⟨k0,hk,rfl,rfl,rfl⟩
  | 1,hk =>
   have e:k0 = ⟨.recs (i64s 1) cs,2⟩:=by injection hk with hk; injection hk with hk; exact hk.symm
   subst e
   refine ⟨_,rfl,rfl,rfl,?_⟩
   show ((paintC X Y S W H it x0 y0 x1 y1 cs).flatMap (recC (i64s 1) 0)).length = (cs.flatMap (recC (i64s 1) 0)).length
   rw [recs_len,recs_len,hl]
  | 2,hk => exact ⟨k0,hk,rfl,rfl,rfl⟩
  | i + 3,hk => simp [MpI,Mp] at hk
 ·intro i k1 hi hk
  match i,hi,hk with
  | i + 3,_,hk => simp [MpI,Mp] at hk
 ·intro i b' hb'
  match i,hb' with
  | 0,hb' =>
   have e:b = b':=by simpa using hb'
   subst e
   exact .inr ⟨g,hg⟩
  | 1,hb' =>
   have e:c = b':=by simpa using hb'
   subst e
   exact .inr hcm
  | 2,hb' =>
   have e:d = b':=by simpa using hb'
   subst e
   rcases Nat.eq_zero_or_pos n with h | h
   ·exact .inl (by rw [h]; rfl)
   ·exact .inr (hdm h)
  | i + 3,hb' => simp at hb'
end Go.Proofs.Ytppklhfiajjhmaa.Ti
end
section
namespace Go.Proofs.Ytppklhfiajjhmaa.Ti
open Go Go.RowKit Go.Proofs.Ytppklhfiajjhmaa.Y Go.Proofs.Ytppklhfiajjhmaa.PPT Go.Lib
set_option linter.unusedVariables false
set_option linter.unusedSimpArgs false
set_option maxRecDepth 100000 in
theorem allNf (X Y S W H:Int) (c0:KM):xfun Try.prog E A3 3 54 [.ptr 0 0] [some ⟨.rlst [iv X,iv Y,iv S,iv W,iv H,.any,.any],90⟩] c0 =
  c0 (MV.agg [iv X,iv Y,iv (IntKind.wrap IntKind.i64 (X + IntKind.wrap IntKind.i64 (W * S))),iv (IntKind.wrap IntKind.i64 (Y + IntKind.wrap IntKind.i64 (H * S)))]) [some { row:=Row.rlst [iv X,iv Y,iv S,iv W,iv H,MV.any,MV.any],ty:=90 },some { row:=Row.lst [iv X,iv Y,iv (IntKind.wrap IntKind.i64 (X + IntKind.wrap IntKind.i64 (W * S))),iv (IntKind.wrap IntKind.i64 (Y + IntKind.wrap IntKind.i64 (H * S)))],ty:=37 },none,none,none,none,none,none,none,none,none,none,none,none,none,none,none,none,none,none,none,none,none,none,none,none,none,none,none,none,none,none,none,none,none,none,none,none,none,none,none,none,none,none,none,none,none,none]:=by kernel_rfl
def allF:List MV → Nat → Nat → List MV → Option MV:=fun cells ty o ps => match cells,ty,o,ps with
 | [.val (.int .i64 X),.val (.int .i64 Y),.val (.int .i64 S),.val (.int .i64 W),.val (.int .i64 H),.any,.any],90,0,[] =>
  some (.agg [iv X,iv Y,iv (w6 (X + w6 (W * S))),iv (w6 (Y + w6 (H * S)))])
 | _,_,_,_ => none
theorem allF_ok:QOk Try.prog A3.env 54 (toR1 allF):=by
 refine Q_one true_stable (fun cells ty o ps v h => ?_)
 unfold allF at h
 split at h
 ·rename_i X Y S W H
  simp only [Option.some.injEq] at h
  subst h
  refine ⟨⟨_,rfl⟩,⟨_,rfl⟩,?_⟩
  apply XF.of_x E_ok A3_ok mixed (n:=3)
  ·intro k
   rw [allNf]
  ·rfl
 ·cases h
def allG:List MV → (Nat → Option Blk) → KV → Option Out:=fun args rd k => match args with
 | [.ptr b 0] => match rd b with
  | some kb => match kb.cells,kb.ty with
   | [.val (.int .i64 X),.val (.int .i64 Y),.val (.int .i64 S),.val (.int .i64 W),.val (.int .i64 H),.va b1 i1 n1 s1,.va b2 i2 n2 s2],90 =>
    k (.agg [iv X,iv Y,iv (w6 (X + w6 (W * S))),iv (w6 (Y + w6 (H * S)))])
   | _,_ => none
  | none => none
 | _ => none
theorem allG_ok:QOk Try.prog A3.env 54 allG:=by
 intro args rd k r hG
 refine allF_ok args rd k r ?_
 unfold allG at hG
 split at hG
 ·rename_i b
  split at hG
  ·rename_i kb hb
   split at hG
   ·rename_i X Y S W H b1 i1 n1 s1 b2 i2 n2 s2 hc ht
    simp only [toR1,hb,hc,ht,allF,List.map_cons,List.map_nil,hide]
    exact hG
   ·cases hG
  ·cases hG
 ·cases hG
def rI (l:List Int):S37:=⟨l.getD 0 0,l.getD 1 0,l.getD 2 0,l.getD 3 0⟩
def meetL (a0 a1 a2 a3 b0 b1 b2 b3:Int):S37:=Pure.meet ⟨a0,a1,a2,a3⟩ ⟨b0,b1,b2,b3⟩
def meetP:List MV → Option MV
 | [.agg [.val (.int .i64 a0),.val (.int .i64 a1),.val (.int .i64 a2),.val (.int .i64 a3)],.agg [.val (.int .i64 b0),.val (.int .i64 b1),.val (.int .i64 b2),.val (.int .i64 b3)]] =>
  some (.agg [iv (meetL a0 a1 a2 a3 b0 b1 b2 b3).f0,iv (meetL a0 a1 a2 a3 b0 b1 b2 b3).f1,iv (meetL a0 a1 a2 a3 b0 b1 b2 b3).f2,iv (meetL a0 a1 a2 a3 b0 b1 b2 b3).f3])
 | _ => none
theorem meetP_ok {X:Env}:QOk Try.prog X 53 (toQ meetP):=by
 refine Q_of (fun args v h => ?_)
 unfold meetP at h
 split at h
 ·rename_i a0 a1 a2 a3 b0 b1 b2 b3
  injection h with h; subst h
  exact ⟨_,_,rfl,rfl,fun w => rect_Meet.calls _ _ _ _ _ _ _ _ _ _ _ _ w (Pure.meet_eq ⟨a0,a1,a2,a3⟩ ⟨b0,b1,b2,b3⟩)⟩
 ·cases h
def empL (a0 a1 a2 a3:Int):Bool:=decide (Pure.emp ⟨a0,a1,a2,a3⟩)
def emptyP:List MV → Option MV
 | [.agg [.val (.int .i64 a0),.val (.int .i64 a1),.val (.int .i64 a2),.val (.int .i64 a3)]] => some (.val (.bool (empL a0 a1 a2 a3)))
 | _ => none
theorem emptyP_ok {X:Env}:QOk Try.prog X 55 (toQ emptyP):=by
 refine Q_of (fun args v h => ?_)
 unfold emptyP at h
 split at h
 ·rename_i a0 a1 a2 a3
  injection h with h; subst h
  exact ⟨_,_,rfl,rfl,fun w => rect_Empty.calls _ _ _ _ _ w (Pure.empty_eq ⟨a0,a1,a2,a3⟩)⟩
 ·cases h
def harmL (l m:List (List Int)):List (List Int):=(Pure.harm (l.map dec39) (m.map dec39)).map enc37
def harmP:List MV → (Nat → Option Blk) → (Blk → (Nat → MV) → Option Out) → Option Out:=fun args rd k => match args with
 | [a,b] => match rowsC T0 (i64s 15) rd a with
  | (c,some l) => match rowsC T0 (i64s 15) rd b with
   | (d,some m) => bif c then bif d then bif decide (l.length + m.length ≤ 90) then k ⟨.recs (i64s 4) (harmL l m),37⟩ (fun b => .va b 0 (harmL l m).length 4) else none else none else none
   | (_,none) => none
  | (_,none) => none
 | _ => none
def cloneR (ty sz:Nat):List MV → (Nat → Option Blk) → (Blk → (Nat → MV) → Option Out) → Option Out:=fun args rd k => match args with
 | [a] => match rowsC T0 (i64s sz) rd a with
  | (c,some l) => bif c then bif decide (l.length ≤ 1000000) then k ⟨.recs (i64s sz) l,ty⟩ (fun b => .va b 0 l.length sz) else none else none
  | (_,none) => none
 | _ => none
theorem cloneR_ok {X:Env} {f ty sz:Nat} (hsz:0 < sz)
  (h1:∀ (b off n c:Nat) (news:List Value) (w:World),news.length = n * sz → n ≤ 1000000 → (∀ j u,news[j]? = some u → w.cell? ⟨b,off + j,none⟩ = some u) → (∀ u ∈ news,u.oneCell' = true) →
   Calls Try.prog f #[.slice (some ⟨b,off,none⟩) n c] w fun e w' => ∃ v',e = .returned v' ∧ w'.ownsRow w.heap.size ty sz v' n news ∧ Below w.heap.size w w')
  (h0:∀ (a:Addr) (c:Nat) (w:World),Calls Try.prog f #[.slice (some a) 0 c] w fun e w' => ∃ v',e = .returned v' ∧ w'.ownsRow w.heap.size ty sz v' 0 [] ∧ Below w.heap.size w w')
  (hnil:∀ (n c:Nat) (w:World),Calls Try.prog f #[.slice none n c] w fun e w' => e = .returned (.slice none 0 0) ∧ w' = w):NOk Try.prog X f (cloneR ty sz):=by
 intro args rd k r hG
 unfold cloneR at hG
 split at hG
 case h_2 => cases hG
 rename_i a
 split at hG
 case h_2 => cases hG
 rename_i c l hl0
 cases c with
 | false => simp at hG
 | true =>
 simp only [cond_true] at hG
 cases hd:decide (l.length ≤ 1000000) with
 | false => rw [hd] at hG; simp at hG
 | true =>
 rw [hd] at hG
 simp only [cond_true] at hG
 simp only [decide_eq_true_eq] at hd
 have hl:=rowsC_ok hl0
 refine ⟨_,_,hG,rfl,fun base w0 σ us w hX hb hn hu hr => ?_⟩
 simp only [RVs] at hu
 obtain ⟨u0,r0,rfl,hh,rfl⟩:=hu
 obtain ⟨A,cc,rfl,hc,hC⟩:=rowsOf_ok hl (T0_out _ base w0 σ.x) hb hh (fun b k hb' hk => hr b k (reach_l (by simp [refsL,hb'])) hk)
 have hlen:=rowsV_len (i64s sz) l
 have hs:(i64s sz).length = sz:=by simp [i64s]
 rw [hs] at hlen
 rcases Nat.eq_zero_or_pos l.length with hz | hz
 ·have hl':l = []:=List.length_eq_zero_iff.1 hz
  subst hl'
  cases A with
  | none =>
   refine Calls.mono (hnil 0 cc w) ?_
   rintro e w' ⟨rfl,rfl⟩
   refine ⟨_,rfl,.inr (fun τ b hx => ?_),Below.refl _ _⟩
   simp only [RV]
   exact ⟨none,0,rfl,Nat.le_refl _,fun h => absurd h (by simp)⟩
  | some a =>
   refine Calls.mono (h0 a cc w) ?_
   rintro e w' ⟨v,rfl,ho,hB⟩
   exact ⟨v,rfl,fresh_own ho rfl hs.symm,hB⟩
 ·obtain ⟨ad,rfl,⟨_,hsp⟩,hcell⟩:=hC hz
  obtain ⟨b,off,spot⟩:=ad
  simp only at hsp
  subst hsp
  refine Calls.mono (h1 b off l.length cc (rowsV (i64s sz) l) w hlen hd ?_ (rowsV_one _ _)) ?_
  ·intro j u hj
   have hlt:=(List.getElem?_eq_some_iff.1 hj).1
   rw [hlen] at hlt
   have hq:j / sz < l.length:=(Nat.div_lt_iff_lt_mul hsz).2 hlt
   have hrl:j % sz < (recV (i64s sz) 0 (l.getD (j / sz) [])).length:=by rw [recV_len,hs]; exact Nat.mod_lt _ hsz
   have h1:=hcell (j / sz) hq (j % sz) _ (List.getElem?_eq_getElem hrl)
   have h2:=rowsV_get hq (List.getElem?_eq_getElem hrl)
   rw [hs] at h1 h2
   have ej:j / sz * sz + j % sz = j:=Nat.div_add_mod' j sz
   rw [ej] at h1 h2
   rw [addr_add] at h1
   rw [hj] at h2
   simp only [Option.some.injEq] at h2
   rw [h1,h2]
  ·rintro e w' ⟨v,rfl,ho,hB⟩
   exact ⟨v,rfl,fresh_own ho rfl hs.symm,hB⟩
end Go.Proofs.Ytppklhfiajjhmaa.Ti
end
