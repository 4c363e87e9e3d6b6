/- What is proved: texts of the law TilesOwn, joined by program. Conditions: none but those in each statement. -/
import Derived.Test.YtppklhfiajjhmaaZTilesOwn15
import Derived.Test.YtppklhfiajjhmaaZTilesOwn5
import Derived.Test.YtppklhfiajjhmaaZTilesOwn17
import Derived.Test.YtppklhfiajjhmaaZTilesOwn3
section
namespace Go.Proofs.Ytppklhfiajjhmaa.Ti
open Go Go.RowKit Go.Proofs.Ytppklhfiajjhmaa.Y Go.Proofs.Ytppklhfiajjhmaa.PPT Go.Proofs.YtppklhfiajjhmaaW.PrintWords Go.Proofs.YtppklhfiajjhmaaW.PrintLast
set_option linter.unusedVariables false
set_option linter.unusedSimpArgs false
theorem lays52:Go.Proofs.SlLaysE0.n41 Try.prog ⟨fun | 41 => 52 | n => n,fun | 22 => 22 | 23 => 39 | 4 => 4 | n => n,fun | n => n⟩:={
 mixed:=by kernel_rfl
 f41:=⟨Try.f52.name,by decide,Try.func52.trans (congrArg some (by kernel_rfl))⟩
 t4:=Try.underlying4
 a4:=Try.isAgg4
 z4:=Try.sizeOf4
 v4:=Try.zeroValue4
 t22:=Try.underlying22
 a22:=Try.isAgg22
 z22:=Try.sizeOf22
 v22:=Try.zeroValue22 }
theorem info39:∃ i z,Try.prog.info? 39 = some i ∧ i.zero = some z ∧ i.size = 15 ∧ i.bytes = 120 ∧ z.cells.size = 15:=by
 have h1:(Try.prog.info? 39).map (fun i => (i.size,i.bytes)) = some (15,120):=by kernel_rfl
 have h2:zeroCells Try.prog 39 = some (List.replicate 15 (.int .i64 0)):=by kernel_rfl
 obtain ⟨i,hi,he⟩:=Option.map_eq_some_iff.1 h1
 simp only [Prod.mk.injEq] at he
 unfold zeroCells at h2
 rw [hi] at h2
 simp only [Option.bind_some] at h2
 obtain ⟨z,hz,hz2⟩:=Option.map_eq_some_iff.1 h2
 refine ⟨i,z,hi,hz,he.1,he.2,?_⟩
 have:=congrArg List.length hz2
 simpa using this
def cloneG (T:Nat → Option (List (List Int))):List MV → (Nat → Option Blk) → (Blk → (Nat → MV) → Option Out) → Option Out:=fun args rd k => match args with
 | [a] => match rowsOf T (i64s 15) rd a with
  | some l => bif decide (0 < l.length ∧ l.length ≤ 1000) then k ⟨.recs (i64s 15) l,39⟩ (fun b => .va b 0 l.length 15) else none
  | none => none
 | _ => none
theorem cloneG_ok {T:Nat → Option (List (List Int))} {X:Env} (hT:∀ B w x,X B w x → outside (i64s 15) T B w x):NOk Try.prog X 52 (cloneG T):=by
 intro args rd k r hG
 unfold cloneG at hG
 split at hG
 ·rename_i a
  split at hG
  ·rename_i l hl
   cases hd:decide (0 < l.length ∧ l.length ≤ 1000) with
   | false => rw [hd] at hG; simp at hG
   | true =>
   rw [hd] at hG
   simp only [cond_true] at hG
   simp only [decide_eq_true_eq] at hd
   refine ⟨_,_,hG,rfl,fun base w0 σ us w hX hb hn hu hr => ?_⟩
   simp only [RVs] at hu
   obtain ⟨u0,r0,rfl,h0,rfl⟩:=hu
   obtain ⟨A,c,rfl,hc,hC⟩:=rowsOf_ok hl (hT _ _ _ hX) hb h0 (fun b k hb' hk => hr b k (reach_l (by simp [refsL,hb'])) hk)
   obtain ⟨ad,rfl,⟨_,hsp⟩,hcell⟩:=hC hd.1
   obtain ⟨b,off,spot⟩:=ad
   simp only at hsp
   subst hsp
   obtain ⟨i,z,hi,hz,hs,hby,hzs⟩:=info39
   have hlen:=rowsV_len (i64s 15) l
   refine Calls.mono (AnyE.slices_Clone lays52 i z 15 120 hi hz hs hby hzs (by omega) (fun w => run_size (by kernel_rfl) w) b off l.length c (rowsV (i64s 15) l) w (by rw [hlen]; simp [i64s]) (by simp [maxLen]; omega) (by omega) ?_ (rowsV_one _ _)) ?_
   ·intro j u hj
    have hlt:=(List.getElem?_eq_some_iff.1 hj).1
    rw [hlen] at hlt
    simp only [i64s,List.length_replicate] at hlt
    have hq:j / 15 < l.length:=by omega
    have hrl:j % 15 < (recV (i64s 15) 0 (l.getD (j / 15) [])).length:=by rw [recV_len]; simp only [i64s,List.length_replicate]; omega
    have h1:=hcell (j / 15) hq (j % 15) _ (List.getElem?_eq_getElem hrl)
    have h2:=rowsV_get hq (List.getElem?_eq_getElem hrl)
    simp only [i64s,List.length_replicate] at h1 h2
    rw [show j / 15 * 15 + j % 15 = j by omega] at h1 h2
    rw [addr_add] at h1
    simp only [i64s] at hj
    rw [hj] at h2
    simp only [Option.some.injEq] at h2
    rw [h1,h2]
   ·rintro e w' ⟨v,rfl,ho,_,hB⟩
    exact ⟨v,rfl,fresh_own ho rfl rfl,hB⟩
  ·cases hG
 ·cases hG
theorem ints_own {w':World} {base:Nat} {ok:Nat → Prop} {v:Value} {r:List Int} (h:Kd.R (Kd.int .i64) 2 w' base ok v r):w'.ownsRow base 2 1 v r.length (rowsV (i64s 1) (r.map fun v => [v])):=by
 obtain ⟨_,inner,ho,hr⟩:=h
 have e:inner = rowsV (i64s 1) (r.map fun v => [v]):=by
  obtain ⟨h1,h2⟩:=hr
  apply List.ext_getElem?
  intro i
  have hlen:(rowsV (i64s 1) (r.map fun v => [v])).length = r.length:=by rw [rowsV_len]; simp [i64s]
  have h1':inner.length = r.length * 1:=h1
  by_cases hi:i < r.length
  ·have h3:=h2 i r[i] (List.getElem?_eq_getElem hi)
   have h4:(inner.drop (i * 1)).take 1 = [.int .i64 r[i]]:=(Kd.int .i64).K_of_M h3
   have h5:inner[i]? = ((inner.drop (i * 1)).take 1)[0]?:=by
    rw [List.getElem?_take,if_pos (by omega),List.getElem?_drop]
    congr 1
    omega
   have h6:=rowsV_get (sh:=i64s 1) (l:=r.map fun v => [v]) (j:=i) (i:=0) (u:=.int .i64 r[i]) (by simpa using hi) (by
    have eg:(r.map fun v => [v]).getD i [] = [r[i]]:=by simp [List.getD_eq_getElem?_getD,hi]
    rw [eg]; rfl)
   rw [h5,h4]
   have:i * (i64s 1).length + 0 = i:=by simp [i64s]
   rw [this] at h6
   rw [h6]
   rfl
  ·rw [List.getElem?_eq_none (by omega),List.getElem?_eq_none (by omega)]
 rw [← e]
 exact ho
theorem Fresh.tup {σ:Sg} {w w':World} {blk:Blk} {vf:Nat → MV} {u:Value} (h:Fresh σ w w' blk vf u) (n:Int):Fresh σ w w' blk (fun b => .tup [vf b,iv n]) (.tuple #[u,.int .i64 n]):=by
 have key:∀ τ b,RV τ (vf b) u → RV τ (.tup [vf b,iv n]) (.tuple #[u,.int .i64 n]):=by
  intro τ b h
  simp only [RV,RVs]
  exact ⟨_,⟨_,_,rfl,h,_,_,rfl,rfl,rfl⟩,rfl⟩
 rcases h with ⟨g,cs,rest,h1,h2,h3,h4⟩ | h
 ·exact .inl ⟨g,cs,rest,h1,h2,h3,fun τ b e1 e2 e3 e4 => key τ b (h4 τ b e1 e2 e3 e4)⟩
 ·exact .inr (fun τ b e1 => key τ b (h τ b e1))
def drawG:List MV → (Nat → Option Blk) → (Blk → (Nat → MV) → Option Out) → Option Out:=fun args rd k => match args with
 | [.val (.slice none 0 0),.agg [.val (.int .i64 x),.val (.int .i64 y),.val (.int .i64 s),.val (.int .i64 wi),.val (.int .i64 hi)]] => bif decide (Pure.okG x y s wi hi) then
   k ⟨.recs (i64s 1) ((Pure.pic [] x y s wi.toNat hi.toNat).map fun v => [v]),2⟩ (fun b => .tup [.va b 0 (Pure.pic [] x y s wi.toNat hi.toNat).length 1,iv 0]) else none
 | _ => none
theorem drawG_ok {X:Env}:NOk Try.prog X 28 drawG:=by
 intro args rd k r hG
 unfold drawG at hG
 split at hG
 ·rename_i x y s wi hi
  cases hd:decide (Pure.okG x y s wi hi) with
  | false => rw [hd] at hG; simp at hG
  | true =>
   rw [hd] at hG
   simp only [cond_true] at hG
   obtain ⟨K,hK⟩:=Pure.draw_ok [] x y s wi hi (by simp) (of_decide_eq_true hd)
   refine ⟨_,_,hG,rfl,fun base w0 σ us w hX hb hn hu hr => ?_⟩
   have hus:=(pls_ok (σ:=σ) [.val (.slice none 0 0),.agg [.val (.int .i64 x),.val (.int .i64 y),.val (.int .i64 s),.val (.int .i64 wi),.val (.int .i64 hi)]] _ rfl us).1 hu
   subst hus
   refine Calls.mono (raster_Draw.calls K none 0 [] x y s wi hi _ 0 w (Kd.C_nil _ _) (Nat.le_refl _) (hK K (Nat.le_refl K))) ?_
   rintro e' w' ⟨v,rfl,hR,hB⟩
   exact ⟨_,rfl,Fresh.tup (fresh_own (ints_own hR) (by simp) rfl) 0,hB⟩
 ·cases hG
noncomputable abbrev E:=EX Try.prog
theorem E_ok:EqOk Try.prog E:=EX_ok Try.prog
theorem mixed:Try.prog.follows .mixedOrders = true:=by kernel_rfl
noncomputable def C1:Ctx:=addR C0 51 (ownerG T0)
noncomputable def C2:Ctx:=addQ C1 53 meetG
noncomputable def C3:Ctx:=addQ C2 55 emptyG
noncomputable def C4:Ctx:=addN C3 18 (harmG T0)
noncomputable def C5:Ctx:=addN C4 52 (cloneG T0)
noncomputable def C6:Ctx:=addN C5 28 drawG
noncomputable def C7:Ctx:=addI C6 72 (inlG Try.prog E C6 3 72)
noncomputable def C8:Ctx:=addR C7 65 (toR1 (runF Try.prog E C7 3 65))
noncomputable def C9:Ctx:=addR C8 54 (toR1 (runF Try.prog E C8 3 54))
noncomputable def C10:Ctx:=addI C9 56 (inlG Try.prog E C9 5 56)
noncomputable def C11:Ctx:=addI C10 36 (inlG Try.prog E C10 5 36)
noncomputable def C12:Ctx:=addI C11 35 (inlG Try.prog E C11 3 35)
noncomputable def C13:Ctx:=addI C12 41 (inlG Try.prog E C12 3 41)
theorem C1_ok:COk Try.prog C1:=addR_ok (C0_ok _) (ownerG_ok (fun B w x _ => T0_out _ B w x)) (fnOk_of Try.func51 (by kernel_rfl) (by kernel_rfl))
theorem C2_ok:COk Try.prog C2:=addQ_ok C1_ok meetG_ok (fnOk_of Try.func53 (by kernel_rfl) (by kernel_rfl))
theorem C3_ok:COk Try.prog C3:=addQ_ok C2_ok emptyG_ok (fnOk_of Try.func55 (by kernel_rfl) (by kernel_rfl))
theorem C4_ok:COk Try.prog C4:=addN_ok C3_ok (harmG_ok (fun B w x _ => T0_out _ B w x)) (fnOk_of Try.func18 (by kernel_rfl) (by kernel_rfl))
theorem C5_ok:COk Try.prog C5:=addN_ok C4_ok (cloneG_ok (fun B w x _ => T0_out _ B w x)) (fnOk_of Try.func52 (by kernel_rfl) (by kernel_rfl))
theorem C6_ok:COk Try.prog C6:=addN_ok C5_ok drawG_ok (fnOk_of Try.func28 (by kernel_rfl) (by kernel_rfl))
theorem C7_ok:COk Try.prog C7:=addI_ok C6_ok (inl_ok E_ok C6_ok mixed _ _) (fnOk_of Try.func72 (by kernel_rfl) (by kernel_rfl))
theorem C8_ok:COk Try.prog C8:=addR_ok C7_ok (Q_run E_ok C7_ok mixed true_stable 3 _) (fnOk_of Try.func65 (by kernel_rfl) (by kernel_rfl))
theorem C9_ok:COk Try.prog C9:=addR_ok C8_ok (Q_run E_ok C8_ok mixed true_stable 3 _) (fnOk_of Try.func54 (by kernel_rfl) (by kernel_rfl))
theorem C10_ok:COk Try.prog C10:=addI_ok C9_ok (inl_ok E_ok C9_ok mixed _ _) (fnOk_of Try.func56 (by kernel_rfl) (by kernel_rfl))
theorem C11_ok:COk Try.prog C11:=addI_ok C10_ok (inl_ok E_ok C10_ok mixed _ _) (fnOk_of Try.func36 (by kernel_rfl) (by kernel_rfl))
theorem C12_ok:COk Try.prog C12:=addI_ok C11_ok (inl_ok E_ok C11_ok mixed _ _) (fnOk_of Try.func35 (by kernel_rfl) (by kernel_rfl))
theorem C13_ok:COk Try.prog C13:=addI_ok C12_ok (inl_ok E_ok C12_ok mixed _ _) (fnOk_of Try.func41 (by kernel_rfl) (by kernel_rfl))
set_option maxRecDepth 100000 in
theorem awake_x:xfun Try.prog E C13 3 33 [] [] fin = some (.val (.bool true),[]):=by kernel_rfl
def awakeG:List MV → Option MV
 | [] => some (.val (.bool true))
 | _ => none
theorem awakeG_ok {X:Env}:QOk Try.prog X 33 (toQ awakeG):=Q_of_x E_ok C13_ok (fun _ _ _ => trivial) mixed (fun args v h => by
 unfold awakeG at h
 split at h
 ·injection h with h; subst h
  exact ⟨⟨_,rfl⟩,⟨_,rfl⟩,awake_x⟩
 ·cases h)
end Go.Proofs.Ytppklhfiajjhmaa.Ti
end
section
namespace Go.Proofs.Ytppklhfiajjhmaa.Ti
open Go Go.RowKit Go.Proofs.Ytppklhfiajjhmaa.Y
set_option linter.unusedVariables false
set_option linter.unusedSimpArgs false
def ownB (l:List (List Int)) (x y:Int):Bool:=(Pure.ownr (l.map dec39) x y).isSome
def ownN (l:List (List Int)) (x y:Int):Int:=match Pure.ownr (l.map dec39) x y with
 | some m => (m:Int)
 | none => 0
def ownG:List MV → (Nat → Option Blk) → KV → Option Out:=fun args rd k => match args with
 | [a,.val (.int .i64 x),.val (.int .i64 y)] => match rowsC T0 (i64s 15) rd a with
  | (c,some l) => bif c then (bif decide (l.length ≤ 1000) then k (.tup [iv (ownN l x y),.val (.bool (ownB l x y))]) else none) else none
  | (_,none) => none
 | _ => none
theorem ownG_ok {X:Env}:QOk Try.prog X 51 ownG:=by
 intro args rd k r hG
 unfold ownG at hG
 split at hG
 ·rename_i a x y
  split at hG
  ·rename_i c l hl0
   cases c with
   | false => simp at hG
   | true =>
   simp only [cond_true] at hG
   have hl:=rowsC_ok hl0
   cases hd:decide (l.length ≤ 1000) with
   | false => rw [hd] at hG; simp at hG
   | true =>
   rw [hd] at hG
   simp only [cond_true] at hG
   have hd':l.length ≤ 1000:=of_decide_eq_true hd
   refine ⟨_,hG,fun base w0 σ us w hX hb hn hu hr => ?_⟩
   simp only [RVs] at hu
   obtain ⟨u0,r0,rfl,h0,u1,r1,rfl,h1,u2,r2,rfl,h2,rfl⟩:=hu
   have e1:=h1.val_inv
   have e2:=h2.val_inv
   subst e1; subst e2
   obtain ⟨A,c,rfl,hc,hC⟩:=items_C (rowsOf_ok hl (T0_out _ base w0 σ.x) hb h0 (fun b k hb' hk => hr b k (reach_l (by simp [refsL,hb'])) hk)) hd'
   have hf:=Pure.of_eq (l.map dec39) x y 1100 (by rw [List.length_map]; omega) (by rw [List.length_map]; omega)
   refine Calls.mono (PPT.owner_Of.calls 1100 A c (l.map dec39) x y (ownN l x y) (ownB l x y) w hC hc ?_) ?_
   ·rw [hf]
    unfold ownN ownB
    cases Pure.ownr (l.map dec39) x y <;> rfl
   ·rintro e w' ⟨rfl,hB⟩
    exact ⟨_,rfl,by simp [RV,RVs],hB⟩
  ·cases hG
 ·cases hG
noncomputable def A1:Ctx:=addR C0 51 ownG
noncomputable def A2:Ctx:=addI A1 72 (inlG Try.prog E A1 3 72)
theorem A1_ok:COk Try.prog A1:=addR_ok (C0_ok _) ownG_ok (fnOk_of Try.func51 (by kernel_rfl) (by kernel_rfl))
theorem A2_ok:COk Try.prog A2:=addI_ok A1_ok (inl_ok E_ok A1_ok mixed _ _) (fnOk_of Try.func72 (by kernel_rfl) (by kernel_rfl))
set_option maxRecDepth 100000 in
theorem spanNf (X Y S W H fr x0 x1 many:Int) (c0:KM):xfun Try.prog E A2 3 65 [.ptr 0 0,iv fr,iv x0,iv x1,iv many] [some ⟨.rlst [iv X,iv Y,iv S,iv W,iv H,.any,.any],90⟩] c0 =
  bif decide (x0 ≤ fr) then bif decide (x1 ≤ fr) then c0 (MV.tup [iv (if many < 0 then many else 0),iv (if (if many < 0 then many else 0) < if many < 0 then many else 0 then if many < 0 then many else 0 else if many < 0 then many else 0)]) [some { row:=Row.rlst [iv X,iv Y,iv S,iv W,iv H,MV.any,MV.any],ty:=90 }] else bif !decide (S = 0) then c0 (MV.tup [iv (if many < 0 then many else 0),iv (if (if many < 0 then many else 0) < if many < IntKind.wrap IntKind.i64 (Int.tdiv (IntKind.wrap IntKind.i64 (IntKind.wrap IntKind.i64 (IntKind.wrap IntKind.i64 (x1 - fr) + S) - 1)) S) then many else IntKind.wrap IntKind.i64 (Int.tdiv (IntKind.wrap IntKind.i64 (IntKind.wrap IntKind.i64 (IntKind.wrap IntKind.i64 (x1 - fr) + S) - 1)) S) then if many < IntKind.wrap IntKind.i64 (Int.tdiv (IntKind.wrap IntKind.i64 (IntKind.wrap IntKind.i64 (IntKind.wrap IntKind.i64 (x1 - fr) + S) - 1)) S) then many else IntKind.wrap IntKind.i64 (Int.tdiv (IntKind.wrap IntKind.i64 (IntKind.wrap IntKind.i64 (IntKind.wrap IntKind.i64 (x1 - fr) + S) - 1)) S) else if many < 0 then many else 0)]) [some { row:=Row.rlst [iv X,iv Y,iv S,iv W,iv H,MV.any,MV.any],ty:=90 }] else none else bif !decide (S = 0) then bif decide (x1 ≤ fr) then c0 (MV.tup [iv (if many < IntKind.wrap IntKind.i64 (Int.tdiv (IntKind.wrap IntKind.i64 (IntKind.wrap IntKind.i64 (IntKind.wrap IntKind.i64 (x0 - fr) + S) - 1)) S) then many else IntKind.wrap IntKind.i64 (Int.tdiv (IntKind.wrap IntKind.i64 (IntKind.wrap IntKind.i64 (IntKind.wrap IntKind.i64 (x0 - fr) + S) - 1)) S)),iv (if (if many < IntKind.wrap IntKind.i64 (Int.tdiv (IntKind.wrap IntKind.i64 (IntKind.wrap IntKind.i64 (IntKind.wrap IntKind.i64 (x0 - fr) + S) - 1)) S) then many else IntKind.wrap IntKind.i64 (Int.tdiv (IntKind.wrap IntKind.i64 (IntKind.wrap IntKind.i64 (IntKind.wrap IntKind.i64 (x0 - fr) + S) - 1)) S)) < if many < 0 then many else 0 then if many < 0 then many else 0 else if many < IntKind.wrap IntKind.i64 (Int.tdiv (IntKind.wrap IntKind.i64 (IntKind.wrap IntKind.i64 (IntKind.wrap IntKind.i64 (x0 - fr) + S) - 1)) S) then many else IntKind.wrap IntKind.i64 (Int.tdiv (IntKind.wrap IntKind.i64 (IntKind.wrap IntKind.i64 (IntKind.wrap IntKind.i64 (x0 - fr) + S) - 1)) S))]) [some { row:=Row.rlst [iv X,iv Y,iv S,iv W,iv H,MV.any,MV.any],ty:=90 }] else bif !decide (S = 0) then c0 (MV.tup [iv (if many < IntKind.wrap IntKind.i64 (Int.tdiv (IntKind.wrap IntKind.i64 (IntKind.wrap IntKind.i64 (IntKind.wrap IntKind.i64 (x0 - fr) + S) - 1)) S) then many else IntKind.wrap IntKind.i64 (Int.tdiv (IntKind.wrap IntKind.i64 (IntKind.wrap IntKind.i64 (IntKind.wrap IntKind.i64 (x0 - fr) + S) - 1)) S)),iv (if (if many < IntKind.wrap IntKind.i64 (Int.tdiv (IntKind.wrap IntKind.i64 (IntKind.wrap IntKind.i64 (IntKind.wrap IntKind.i64 (x0 - fr) + S) - 1)) S) then many else IntKind.wrap IntKind.i64 (Int.tdiv (IntKind.wrap IntKind.i64 (IntKind.wrap IntKind.i64 (IntKind.wrap IntKind.i64 (x0 - fr) + S) - 1)) S)) < if many < IntKind.wrap IntKind.i64 (Int.tdiv (IntKind.wrap IntKind.i64 (IntKind.wrap IntKind.i64 (IntKind.wrap IntKind.i64 (x1 - fr) + S) - 1)) S) then many else IntKind.wrap IntKind.i64 (Int.tdiv (IntKind.wrap IntKind.i64 (IntKind.wrap IntKind.i64 (IntKind.wrap IntKind.i64 (x1 - fr) + S) - 1)) S) then if many < IntKind.wrap IntKind.i64 (Int.tdiv (IntKind.wrap IntKind.i64 (IntKind.wrap IntKind.i64 (IntKind.wrap IntKind.i64 (x1 - fr) + S) - 1)) S) then many else IntKind.wrap IntKind.i64 (Int.tdiv (IntKind.wrap IntKind.i64 (IntKind.wrap IntKind.i64 (IntKind.wrap IntKind.i64 (x1 - fr) + S) - 1)) S) else if many < IntKind.wrap IntKind.i64 (Int.tdiv (IntKind.wrap IntKind.i64 (IntKind.wrap IntKind.i64 (IntKind.wrap IntKind.i64 (x0 - fr) + S) - 1)) S) then many else IntKind.wrap IntKind.i64 (Int.tdiv (IntKind.wrap IntKind.i64 (IntKind.wrap IntKind.i64 (IntKind.wrap IntKind.i64 (x0 - fr) + S) - 1)) S))]) [some { row:=Row.rlst [iv X,iv Y,iv S,iv W,iv H,MV.any,MV.any],ty:=90 }] else none else none:=by kernel_rfl
def firstI (fr x S:Int):Int:=bif decide (x ≤ fr) then 0 else IntKind.wrap .i64 (Int.tdiv (IntKind.wrap .i64 (IntKind.wrap .i64 (IntKind.wrap .i64 (x - fr) + S) - 1)) S)
def minI (a b:Int):Int:=if b < a then b else a
def maxI (a b:Int):Int:=if a < b then b else a
def loI (fr x0 S many:Int):Int:=minI (firstI fr x0 S) many
def hiI (fr x0 x1 S many:Int):Int:=maxI (minI (firstI fr x0 S) many) (minI (firstI fr x1 S) many)
def spanF:List MV → Nat → Nat → List MV → Option MV:=fun cells ty o ps => match cells,ty,o,ps with
 | [.val (.int .i64 X),.val (.int .i64 Y),.val (.int .i64 S),.val (.int .i64 W),.val (.int .i64 H),.any,.any],90,0,[.val (.int .i64 fr),.val (.int .i64 x0),.val (.int .i64 x1),.val (.int .i64 many)] =>
  bif !decide (S = 0) then some (.tup [iv (loI fr x0 S many),iv (hiI fr x0 x1 S many)]) else none
 | _,_,_,_ => none
theorem spanF_ok:QOk Try.prog A2.env 65 (toR1 spanF):=by
 refine Q_one true_stable (fun cells ty o ps v h => ?_)
 unfold spanF at h
 split at h
 ·rename_i X Y S W H fr x0 x1 many
  cases hS:(!decide (S = 0)) with
  | false => rw [hS] at h; cases h
  | true =>
   rw [hS] at h
   simp only [cond_true,Option.some.injEq] at h
   subst h
   refine ⟨⟨_,rfl⟩,⟨_,rfl⟩,?_⟩
   refine XF.of_x E_ok A2_ok mixed (n:=3) (m':=[some ⟨.rlst [iv X,iv Y,iv S,iv W,iv H,.any,.any],90⟩]) (fun k => ?_) rfl
   rw [spanNf]
   unfold loI hiI firstI
   cases h1:decide (x0 ≤ fr) <;> cases h2:decide (x1 ≤ fr) <;> simp only [hS,cond_true,cond_false] <;> rfl
 ·cases h
def spanG:List MV → (Nat → Option Blk) → KV → Option Out:=fun args rd k => match args with
 | [.ptr b 0,.val (.int .i64 fr),.val (.int .i64 x0),.val (.int .i64 x1),.val (.int .i64 many)] => match rd b with
  | some kb => match kb.cells,kb.ty with
   | [.val (.int .i64 X),.val (.int .i64 Y),.val (.int .i64 S),.val (.int .i64 W),.val (.int .i64 H),.va b1 i1 n1 s1,.va b2 i2 n2 s2],90 =>
    bif !decide (S = 0) then k (.tup [iv (loI fr x0 S many),iv (hiI fr x0 x1 S many)]) else none
   | _,_ => none
  | none => none
 | _ => none
theorem spanG_ok:QOk Try.prog A2.env 65 spanG:=by
 intro args rd k r hG
 refine spanF_ok args rd k r ?_
 unfold spanG at hG
 split at hG
 ·rename_i b fr x0 x1 many
  split at hG
  ·rename_i kb hb
   split at hG
   ·rename_i X Y S W H b1 i1 n1 s1 b2 i2 n2 s2 hc ht
    simp only [toR1,hb,hc,ht,spanF,List.map_cons,List.map_nil,hide]
    cases hS:(!decide (S = 0)) with
    | false => rw [hS] at hG; cases hG
    | true =>
     rw [hS] at hG
     exact hG
   ·cases hG
  ·cases hG
 ·cases hG
noncomputable def A3:Ctx:=addR A2 65 spanG
theorem A3_ok:COk Try.prog A3:=addR_ok A2_ok spanG_ok (fnOk_of Try.func65 (by kernel_rfl) (by kernel_rfl))
noncomputable def c56:Code:=bodyOf Try.f56
def TM (u:Nat → MV) (left right top bottom row k:Int):List MV :=
 [.ptr 0 0,u 1,u 2,u 3,u 4,iv left,iv right,iv top,iv bottom,iv row,iv k] ++ (List.range 118).map (fun i => u (i + 11))
def Mp (X Y S W H:Int) (L:MV) (nc:Nat) (cs:List (List Int)) (third:List (Option Blk)):Mem :=
 [some ⟨.rlst [iv X,iv Y,iv S,iv W,iv H,L,.va 1 0 nc 1],90⟩,some ⟨.recs (i64s 1) cs,2⟩] ++ third
set_option maxRecDepth 100000 in
theorem inBody (u:Nat → MV) (left right top bottom row k X Y S W H:Int) (n nc:Nat) (cs it:List (List Int)) (bx:Option Blk) (kk:KE):xcode Try.prog E A3 1 (cut c56 [1,1,1,0,1,0,0,1,0,0,1,0,0]) (TM u left right top bottom row k) (Mp X Y S W H (.va 2 0 n 15) nc cs [some ⟨.rrecs (i64s 15) it,39⟩,bx]) kk =
  bif decide (k < right) then bif List.length it == n then bif decide (List.length it ≤ 1000) then bif ownB it (IntKind.wrap IntKind.i64 (X + IntKind.wrap IntKind.i64 (k * S))) (IntKind.wrap IntKind.i64 (Y + IntKind.wrap IntKind.i64 (row * S))) then bif decide (0 ≤ ownN it (IntKind.wrap IntKind.i64 (X + IntKind.wrap IntKind.i64 (k * S))) (IntKind.wrap IntKind.i64 (Y + IntKind.wrap IntKind.i64 (row * S))) ∧ ownN it (IntKind.wrap IntKind.i64 (X + IntKind.wrap IntKind.i64 (k * S))) (IntKind.wrap IntKind.i64 (Y + IntKind.wrap IntKind.i64 (row * S))) < (↑n:Int)) then bif decide (0 + Int.toNat (ownN it (IntKind.wrap IntKind.i64 (X + IntKind.wrap IntKind.i64 (k * S))) (IntKind.wrap IntKind.i64 (Y + IntKind.wrap IntKind.i64 (row * S)))) < List.length it) then bif decide (0 ≤ IntKind.wrap IntKind.i64 (IntKind.wrap IntKind.i64 (row * W) + k) ∧ IntKind.wrap IntKind.i64 (IntKind.wrap IntKind.i64 (row * W) + k) < (↑nc:Int)) then bif decide (0 + Int.toNat (IntKind.wrap IntKind.i64 (IntKind.wrap IntKind.i64 (row * W) + k)) < List.length cs) then kk XE.normal [MV.ptr 0 0,u 1,u 2,u 3,u 4,iv left,iv right,iv top,iv bottom,iv row,iv (IntKind.wrap IntKind.i64 (k + 1)),iv (List.getD (List.getD it (0 + Int.toNat (ownN it (IntKind.wrap IntKind.i64 (X + IntKind.wrap IntKind.i64 (k * S))) (IntKind.wrap IntKind.i64 (Y + IntKind.wrap IntKind.i64 (row * S))))) []) (0 + 1 + 1 + 1 + 1 + 1 + 1 + 1 + 1 + 1 + 1 + 1 + 1 + 1 + 1) 0),iv (ownN it (IntKind.wrap IntKind.i64 (X + IntKind.wrap IntKind.i64 (k * S))) (IntKind.wrap IntKind.i64 (Y + IntKind.wrap IntKind.i64 (row * S)))),MV.val (Value.bool (ownB it (IntKind.wrap IntKind.i64 (X + IntKind.wrap IntKind.i64 (k * S))) (IntKind.wrap IntKind.i64 (Y + IntKind.wrap IntKind.i64 (row * S))))),u 14,u 15,u 16,u 17,u 18,u 19,u 20,u 21,u 22,u 23,u 24,u 25,u 26,u 27,u 28,u 29,u 30,u 31,u 32,u 33,u 34,u 35,u 36,u 37,u 38,u 39,u 40,u 41,u 42,u 43,u 44,u 45,u 46,u 47,u 48,u 49,u 50,u 51,u 52,u 53,u 54,u 55,u 56,u 57,u 58,iv k,iv right,MV.val (Value.bool true),iv k,iv (IntKind.wrap IntKind.i64 (k + 1)),MV.tup [iv (ownN it (IntKind.wrap IntKind.i64 (X + IntKind.wrap IntKind.i64 (k * S))) (IntKind.wrap IntKind.i64 (Y + IntKind.wrap IntKind.i64 (row * S)))),MV.val (Value.bool (ownB it (IntKind.wrap IntKind.i64 (X + IntKind.wrap IntKind.i64 (k * S))) (IntKind.wrap IntKind.i64 (Y + IntKind.wrap IntKind.i64 (row * S)))))],MV.ptr 0 0,MV.ptr 0 0,MV.ptr 0 5,MV.va 2 0 n 15,MV.ptr 0 0,MV.ptr 0 0,MV.ptr 0 0,MV.ptr 0 0,iv X,iv k,MV.ptr 0 0,MV.ptr 0 0,MV.ptr 0 0,MV.ptr 0 2,iv S,iv (IntKind.wrap IntKind.i64 (k * S)),iv (IntKind.wrap IntKind.i64 (X + IntKind.wrap IntKind.i64 (k * S))),MV.ptr 0 0,MV.ptr 0 0,MV.ptr 0 0,MV.ptr 0 1,iv Y,iv row,MV.ptr 0 0,MV.ptr 0 0,MV.ptr 0 0,MV.ptr 0 2,iv S,iv (IntKind.wrap IntKind.i64 (row * S)),iv (IntKind.wrap IntKind.i64 (Y + IntKind.wrap IntKind.i64 (row * S))),MV.tup [iv (ownN it (IntKind.wrap IntKind.i64 (X + IntKind.wrap IntKind.i64 (k * S))) (IntKind.wrap IntKind.i64 (Y + IntKind.wrap IntKind.i64 (row * S)))),MV.val (Value.bool (ownB it (IntKind.wrap IntKind.i64 (X + IntKind.wrap IntKind.i64 (k * S))) (IntKind.wrap IntKind.i64 (Y + IntKind.wrap IntKind.i64 (row * S)))))],iv (ownN it (IntKind.wrap IntKind.i64 (X + IntKind.wrap IntKind.i64 (k * S))) (IntKind.wrap IntKind.i64 (Y + IntKind.wrap IntKind.i64 (row * S)))),MV.val (Value.bool (ownB it (IntKind.wrap IntKind.i64 (X + IntKind.wrap IntKind.i64 (k * S))) (IntKind.wrap IntKind.i64 (Y + IntKind.wrap IntKind.i64 (row * S))))),MV.val (Value.bool true),MV.ptr 0 0,MV.ptr 0 0,MV.ptr 0 5,MV.va 2 0 n 15,iv (ownN it (IntKind.wrap IntKind.i64 (X + IntKind.wrap IntKind.i64 (k * S))) (IntKind.wrap IntKind.i64 (Y + IntKind.wrap IntKind.i64 (row * S)))),MV.pe 2 15 (0 + Int.toNat (ownN it (IntKind.wrap IntKind.i64 (X + IntKind.wrap IntKind.i64 (k * S))) (IntKind.wrap IntKind.i64 (Y + IntKind.wrap IntKind.i64 (row * S))))) 0,MV.pe 2 15 (0 + Int.toNat (ownN it (IntKind.wrap IntKind.i64 (X + IntKind.wrap IntKind.i64 (k * S))) (IntKind.wrap IntKind.i64 (Y + IntKind.wrap IntKind.i64 (row * S))))) 14,iv (List.getD (List.getD it (0 + Int.toNat (ownN it (IntKind.wrap IntKind.i64 (X + IntKind.wrap IntKind.i64 (k * S))) (IntKind.wrap IntKind.i64 (Y + IntKind.wrap IntKind.i64 (row * S))))) []) (0 + 1 + 1 + 1 + 1 + 1 + 1 + 1 + 1 + 1 + 1 + 1 + 1 + 1 + 1) 0),MV.ptr 0 0,MV.ptr 0 0,MV.ptr 0 6,MV.va 1 0 nc 1,iv row,MV.ptr 0 0,MV.ptr 0 0,MV.ptr 0 0,MV.ptr 0 3,iv W,iv (IntKind.wrap IntKind.i64 (row * W)),iv k,iv (IntKind.wrap IntKind.i64 (IntKind.wrap IntKind.i64 (row * W) + k)),iv (List.getD (List.getD it (0 + Int.toNat (ownN it (IntKind.wrap IntKind.i64 (X + IntKind.wrap IntKind.i64 (k * S))) (IntKind.wrap IntKind.i64 (Y + IntKind.wrap IntKind.i64 (row * S))))) []) (0 + 1 + 1 + 1 + 1 + 1 + 1 + 1 + 1 + 1 + 1 + 1 + 1 + 1 + 1) 0),MV.pe 1 1 (0 + Int.toNat (IntKind.wrap IntKind.i64 (IntKind.wrap IntKind.i64 (row * W) + k))) 0,u 122,u 123,u 124,u 125,u 126,u 127,u 128] [some { row:=Row.rlst [iv X,iv Y,iv S,iv W,iv H,MV.va 2 0 n 15,MV.va 1 0 nc 1],ty:=90 },some { row:=Row.recs [some IntKind.i64] (List.set cs (0 + Int.toNat (IntKind.wrap IntKind.i64 (IntKind.wrap IntKind.i64 (row * W) + k))) (setRec (i64s 1) 0 (List.getD cs (0 + Int.toNat (IntKind.wrap IntKind.i64 (IntKind.wrap IntKind.i64 (row * W) + k))) []) 0 (List.getD (List.getD it (0 + Int.toNat (ownN it (IntKind.wrap IntKind.i64 (X + IntKind.wrap IntKind.i64 (k * S))) (IntKind.wrap IntKind.i64 (Y + IntKind.wrap IntKind.i64 (row * S))))) []) (0 + 1 + 1 + 1 + 1 + 1 + 1 + 1 + 1 + 1 + 1 + 1 + 1 + 1 + 1) 0))),ty:=2 },some { row:=Row.rrecs [some IntKind.i64,some IntKind.i64,some IntKind.i64,some IntKind.i64,some IntKind.i64,some IntKind.i64,some IntKind.i64,some IntKind.i64,some IntKind.i64,some IntKind.i64,some IntKind.i64,some IntKind.i64,some IntKind.i64,some IntKind.i64,some IntKind.i64] it,ty:=39 },bx,none,none,none,none,none,none,none,none,none,none,none,none,none,none,none,none,none,none,none,none,none,none,none,none,none,none,none,none,none,none,none,none,none,none,none,none,none,none,none,none,none,none,none,none,none,none,none,none,none,none,none,none] else none else none else none else none else bif decide (0 ≤ IntKind.wrap IntKind.i64 (IntKind.wrap IntKind.i64 (row * W) + k) ∧ IntKind.wrap IntKind.i64 (IntKind.wrap IntKind.i64 (row * W) + k) < (↑nc:Int)) then bif decide (0 + Int.toNat (IntKind.wrap IntKind.i64 (IntKind.wrap IntKind.i64 (row * W) + k)) < List.length cs) then kk XE.normal [MV.ptr 0 0,u 1,u 2,u 3,u 4,iv left,iv right,iv top,iv bottom,iv row,iv (IntKind.wrap IntKind.i64 (k + 1)),iv 0,iv (ownN it (IntKind.wrap IntKind.i64 (X + IntKind.wrap IntKind.i64 (k * S))) (IntKind.wrap IntKind.i64 (Y + IntKind.wrap IntKind.i64 (row * S)))),MV.val (Value.bool (ownB it (IntKind.wrap IntKind.i64 (X + IntKind.wrap IntKind.i64 (k * S))) (IntKind.wrap IntKind.i64 (Y + IntKind.wrap IntKind.i64 (row * S))))),u 14,u 15,u 16,u 17,u 18,u 19,u 20,u 21,u 22,u 23,u 24,u 25,u 26,u 27,u 28,u 29,u 30,u 31,u 32,u 33,u 34,u 35,u 36,u 37,u 38,u 39,u 40,u 41,u 42,u 43,u 44,u 45,u 46,u 47,u 48,u 49,u 50,u 51,u 52,u 53,u 54,u 55,u 56,u 57,u 58,iv k,iv right,MV.val (Value.bool true),iv k,iv (IntKind.wrap IntKind.i64 (k + 1)),MV.tup [iv (ownN it (IntKind.wrap IntKind.i64 (X + IntKind.wrap IntKind.i64 (k * S))) (IntKind.wrap IntKind.i64 (Y + IntKind.wrap IntKind.i64 (row * S)))),MV.val (Value.bool (ownB it (IntKind.wrap IntKind.i64 (X + IntKind.wrap IntKind.i64 (k * S))) (IntKind.wrap IntKind.i64 (Y + IntKind.wrap IntKind.i64 (row * S)))))],MV.ptr 0 0,MV.ptr 0 0,MV.ptr 0 5,MV.va 2 0 n 15,MV.ptr 0 0,MV.ptr 0 0,MV.ptr 0 0,MV.ptr 0 0,iv X,iv k,MV.ptr 0 0,MV.ptr 0 0,MV.ptr 0 0,MV.ptr 0 2,iv S,iv (IntKind.wrap IntKind.i64 (k * S)),iv (IntKind.wrap IntKind.i64 (X + IntKind.wrap IntKind.i64 (k * S))),MV.ptr 0 0,MV.ptr 0 0,MV.ptr 0 0,MV.ptr 0 1,iv Y,iv row,MV.ptr 0 0,MV.ptr 0 0,MV.ptr 0 0,MV.ptr 0 2,iv S,iv (IntKind.wrap IntKind.i64 (row * S)),iv (IntKind.wrap IntKind.i64 (Y + IntKind.wrap IntKind.i64 (row * S))),MV.tup [iv (ownN it (IntKind.wrap IntKind.i64 (X + IntKind.wrap IntKind.i64 (k * S))) (IntKind.wrap IntKind.i64 (Y + IntKind.wrap IntKind.i64 (row * S)))),MV.val (Value.bool (ownB it (IntKind.wrap IntKind.i64 (X + IntKind.wrap IntKind.i64 (k * S))) (IntKind.wrap IntKind.i64 (Y + IntKind.wrap IntKind.i64 (row * S)))))],iv (ownN it (IntKind.wrap IntKind.i64 (X + IntKind.wrap IntKind.i64 (k * S))) (IntKind.wrap IntKind.i64 (Y + IntKind.wrap IntKind.i64 (row * S)))),MV.val (Value.bool (ownB it (IntKind.wrap IntKind.i64 (X + IntKind.wrap IntKind.i64 (k * S))) (IntKind.wrap IntKind.i64 (Y + IntKind.wrap IntKind.i64 (row * S))))),MV.val (Value.bool false),u 99,u 100,u 101,u 102,u 103,u 104,u 105,u 106,MV.ptr 0 0,MV.ptr 0 0,MV.ptr 0 6,MV.va 1 0 nc 1,iv row,MV.ptr 0 0,MV.ptr 0 0,MV.ptr 0 0,MV.ptr 0 3,iv W,iv (IntKind.wrap IntKind.i64 (row * W)),iv k,iv (IntKind.wrap IntKind.i64 (IntKind.wrap IntKind.i64 (row * W) + k)),iv 0,MV.pe 1 1 (0 + Int.toNat (IntKind.wrap IntKind.i64 (IntKind.wrap IntKind.i64 (row * W) + k))) 0,u 122,u 123,u 124,u 125,u 126,u 127,u 128] [some { row:=Row.rlst [iv X,iv Y,iv S,iv W,iv H,MV.va 2 0 n 15,MV.va 1 0 nc 1],ty:=90 },some { row:=Row.recs [some IntKind.i64] (List.set cs (0 + Int.toNat (IntKind.wrap IntKind.i64 (IntKind.wrap IntKind.i64 (row * W) + k))) (setRec (i64s 1) 0 (List.getD cs (0 + Int.toNat (IntKind.wrap IntKind.i64 (IntKind.wrap IntKind.i64 (row * W) + k))) []) 0 0)),ty:=2 },some { row:=Row.rrecs [some IntKind.i64,some IntKind.i64,some IntKind.i64,some IntKind.i64,some IntKind.i64,some IntKind.i64,some IntKind.i64,some IntKind.i64,some IntKind.i64,some IntKind.i64,some IntKind.i64,some IntKind.i64,some IntKind.i64,some IntKind.i64,some IntKind.i64] it,ty:=39 },bx,none,none,none,none,none,none,none,none,none,none,none,none,none,none,none,none,none,none,none,none,none,none,none,none,none,none,none,none,none,none,none,none,none,none,none,none,none,none,none,none,none,none,none,none,none,none,none,none,none,none,none,none] else none else none else none else none else kk (XE.exit 2) [MV.ptr 0 0,u 1,u 2,u 3,u 4,iv left,iv right,iv top,iv bottom,iv row,iv k,u 11,u 12,u 13,u 14,u 15,u 16,u 17,u 18,u 19,u 20,u 21,u 22,u 23,u 24,u 25,u 26,u 27,u 28,u 29,u 30,u 31,u 32,u 33,u 34,u 35,u 36,u 37,u 38,u 39,u 40,u 41,u 42,u 43,u 44,u 45,u 46,u 47,u 48,u 49,u 50,u 51,u 52,u 53,u 54,u 55,u 56,u 57,u 58,iv k,iv right,MV.val (Value.bool false),u 62,u 63,u 64,u 65,u 66,u 67,u 68,u 69,u 70,u 71,u 72,u 73,u 74,u 75,u 76,u 77,u 78,u 79,u 80,u 81,u 82,u 83,u 84,u 85,u 86,u 87,u 88,u 89,u 90,u 91,u 92,u 93,u 94,u 95,u 96,u 97,u 98,u 99,u 100,u 101,u 102,u 103,u 104,u 105,u 106,u 107,u 108,u 109,u 110,u 111,u 112,u 113,u 114,u 115,u 116,u 117,u 118,u 119,u 120,u 121,u 122,u 123,u 124,u 125,u 126,u 127,u 128] [some { row:=Row.rlst [iv X,iv Y,iv S,iv W,iv H,MV.va 2 0 n 15,MV.va 1 0 nc 1],ty:=90 },some { row:=Row.recs [some IntKind.i64] cs,ty:=2 },some { row:=Row.rrecs [some IntKind.i64,some IntKind.i64,some IntKind.i64,some IntKind.i64,some IntKind.i64,some IntKind.i64,some IntKind.i64,some IntKind.i64,some IntKind.i64,some IntKind.i64,some IntKind.i64,some IntKind.i64,some IntKind.i64,some IntKind.i64,some IntKind.i64] it,ty:=39 },bx]:=by kernel_rfl
end Go.Proofs.Ytppklhfiajjhmaa.Ti
end
section
namespace Go.Proofs.Ytppklhfiajjhmaa.Ti
open Go Go.RowKit Go.Proofs.Ytppklhfiajjhmaa.Y
set_option linter.unusedVariables false
set_option linter.unusedSimpArgs false
structure IsTM (tm:List MV) (left right top bottom row k:Int):Prop where
 len:tm.length = 129
 h0:tm[0]? = some (.ptr 0 0)
 h5:tm[5]? = some (iv left)
 h6:tm[6]? = some (iv right)
 h7:tm[7]? = some (iv top)
 h8:tm[8]? = some (iv bottom)
 h9:tm[9]? = some (iv row)
 h10:tm[10]? = some (iv k)
theorem IsTM.eq {tm:List MV} {left right top bottom row k:Int} (h:IsTM tm left right top bottom row k):∃ u,tm = TM u left right top bottom row k:=by
 refine ⟨fun i => tm.getD i (.val undef),?_⟩
 have hg:∀ i,i < 129 → tm[i]? = some (tm.getD i (.val undef)):=by
  intro i hi
  rw [List.getD_eq_getElem?_getD,List.getElem?_eq_getElem (by rw [h.len]; exact hi)]
  rfl
 apply List.ext_getElem?
 intro i
 rcases Nat.lt_or_ge i 11 with hi | hi
 ·unfold TM
  rw [List.getElem?_append_left (by simpa using hi)]
  match i,hi with
  | 0,_ => exact h.h0
  | 1,_ => exact hg 1 (by omega)
  | 2,_ => exact hg 2 (by omega)
  | 3,_ => exact hg 3 (by omega)
  | 4,_ => exact hg 4 (by omega)
  | 5,_ => exact h.h5
  | 6,_ => exact h.h6
  | 7,_ => exact h.h7
  | 8,_ => exact h.h8
  | 9,_ => exact h.h9
  | 10,_ => exact h.h10
 ·unfold TM
  rw [List.getElem?_append_right (by simpa using hi)]
  simp only [List.length_cons,List.length_nil,List.getElem?_map]
  rcases Nat.lt_or_ge i 129 with hi2 | hi2
  ·rw [List.getElem?_range (by omega),hg i hi2]
   simp only [Option.map_some]
   congr 3
   omega
  ·rw [List.getElem?_eq_none (by rw [h.len]; exact hi2),List.getElem?_eq_none (by simp; omega)]
   rfl
theorem And_swap {α:Type} {p q:α → Prop} (h:∃ x,q x ∧ p x):∃ x,p x ∧ q x:=by obtain ⟨x,a,b⟩:=h; exact ⟨x,b,a⟩
abbrev w6 (n:Int):Int:=IntKind.wrap .i64 n
theorem setRec1 (r:List Int) (v:Int):setRec (i64s 1) 0 r 0 v = [v]:=rfl
def colC (it:List (List Int)) (x y:Int):Int:=bif ownB it x y then (it.getD (ownN it x y).toNat []).getD 14 0 else 0
theorem own_lt {it:List (List Int)} {x y:Int} (h:ownB it x y = true):0 ≤ ownN it x y ∧ ownN it x y < it.length:=by
 unfold ownB at h
 unfold ownN
 cases ho:Pure.ownr (it.map dec39) x y with
 | none => rw [ho] at h; simp at h
 | some m =>
  have:=Pure.ownr_lt ho
  simp only [List.length_map] at this
  simp only
  omega
theorem in_round (u:Nat → MV) (left right top bottom row k X Y S W H:Int) (n nc:Nat) (cs it:List (List Int)) (bx:Option Blk) (hk:k < right) (hn:it.length = n) (h1:it.length ≤ 1000)
  (hnc:cs.length = nc) (hi:w6 (w6 (row * W) + k) = row * W + k) (hk1:w6 (k + 1) = k + 1) (hb:0 ≤ row * W + k ∧ row * W + k < nc) :
  ∃ tm',IsTM tm' left right top bottom row (k + 1) ∧ ∀ kk:KE,xcode Try.prog E A3 1 (cut c56 [1,1,1,0,1,0,0,1,0,0,1,0,0]) (TM u left right top bottom row k) (Mp X Y S W H (.va 2 0 n 15) nc cs [some ⟨.rrecs (i64s 15) it,39⟩,bx]) kk =
   kk .normal tm' (Mp X Y S W H (.va 2 0 n 15) nc (cs.set (row * W + k).toNat [colC it (w6 (X + w6 (k * S))) (w6 (Y + w6 (row * S)))]) [some ⟨.rrecs (i64s 15) it,39⟩,bx] ++ List.replicate 52 none):=by
 have c1:decide (k < right) = true:=decide_eq_true hk
 have c2:(List.length it == n) = true:=by simp [hn]
 have c3:decide (it.length ≤ 1000) = true:=decide_eq_true h1
 have c4:decide (0 ≤ row * W + k ∧ row * W + k < (nc:Int)) = true:=decide_eq_true hb
 have c5:decide ((row * W + k).toNat < cs.length) = true:=decide_eq_true (by omega)
 cases hB:ownB it (w6 (X + w6 (k * S))) (w6 (Y + w6 (row * S))) with
 | true =>
  obtain ⟨o1,o2⟩:=own_lt hB
  have c6:decide (0 ≤ ownN it (w6 (X + w6 (k * S))) (w6 (Y + w6 (row * S))) ∧ ownN it (w6 (X + w6 (k * S))) (w6 (Y + w6 (row * S))) < (n:Int)) = true:=decide_eq_true ⟨o1,by rw [← hn]; exact o2⟩
  have c7:decide ((ownN it (w6 (X + w6 (k * S))) (w6 (Y + w6 (row * S)))).toNat < it.length) = true:=decide_eq_true (by omega)
  have hc:colC it (w6 (X + w6 (k * S))) (w6 (Y + w6 (row * S))) = (it.getD (ownN it (w6 (X + w6 (k * S))) (w6 (Y + w6 (row * S)))).toNat []).getD 14 0:=by unfold colC; rw [hB]; rfl
  refine And_swap ?_
  apply Exists.intro
  refine ⟨fun kk => ?_,?_⟩
  ·rw [inBody]
   simp only [c1,c2,c3,hB,c6,c7,hi,c4,c5,hk1,cond_true,hc,Nat.zero_add,Mp,setRec1]
   rfl
  ·exact ⟨rfl,rfl,rfl,rfl,rfl,rfl,rfl,rfl⟩
 | false =>
  have hc:colC it (w6 (X + w6 (k * S))) (w6 (Y + w6 (row * S))) = 0:=by unfold colC; rw [hB]; rfl
  refine And_swap ?_
  apply Exists.intro
  refine ⟨fun kk => ?_,?_⟩
  ·rw [inBody]
   simp only [c1,c2,c3,hB,hi,c4,c5,hk1,cond_true,cond_false,hc,Nat.zero_add,Mp,setRec1]
   rfl
  ·exact ⟨rfl,rfl,rfl,rfl,rfl,rfl,rfl,rfl⟩
theorem in_end (u:Nat → MV) (left right top bottom row k X Y S W H:Int) (n nc:Nat) (cs it:List (List Int)) (bx:Option Blk) (hk:¬ k < right) :
  ∃ tm',IsTM tm' left right top bottom row k ∧ ∀ kk:KE,xcode Try.prog E A3 1 (cut c56 [1,1,1,0,1,0,0,1,0,0,1,0,0]) (TM u left right top bottom row k) (Mp X Y S W H (.va 2 0 n 15) nc cs [some ⟨.rrecs (i64s 15) it,39⟩,bx]) kk =
   kk (.exit 2) tm' (Mp X Y S W H (.va 2 0 n 15) nc cs [some ⟨.rrecs (i64s 15) it,39⟩,bx]):=by
 have c1:decide (k < right) = false:=decide_eq_false hk
 refine And_swap ?_
 apply Exists.intro
 refine ⟨fun kk => ?_,?_⟩
 ·rw [inBody]
  simp only [c1,cond_false,Mp]
  rfl
 ·exact ⟨rfl,rfl,rfl,rfl,rfl,rfl,rfl,rfl⟩
end Go.Proofs.Ytppklhfiajjhmaa.Ti
end
section
namespace Go.Proofs.Ytppklhfiajjhmaa.Ti
open Go Go.RowKit Go.Proofs.Ytppklhfiajjhmaa.Y
set_option linter.unusedVariables false
set_option linter.unusedSimpArgs false
theorem w6_id {n:Int} (h1:-9223372036854775808 ≤ n) (h2:n < 9223372036854775808):w6 n = n:=by
 unfold w6
 rw [IntKind.wrap_i64]
 omega
def rowP (it:List (List Int)) (X Y S W row:Int):Nat → Int → List (List Int) → List (List Int)
 | 0,_,cs => cs
 | d + 1,k,cs => rowP it X Y S W row d (k + 1) (cs.set (row * W + k).toNat [colC it (w6 (X + w6 (k * S))) (w6 (Y + w6 (row * S)))])
theorem rowP_len (it:List (List Int)) (X Y S W row:Int):∀ (d:Nat) (k:Int) (cs:List (List Int)),(rowP it X Y S W row d k cs).length = cs.length
 | 0,_,_ => rfl
 | d + 1,k,cs => by rw [rowP,rowP_len it X Y S W row d]; simp
section
variable (it:List (List Int)) (bx:Option Blk) (left right top bottom X Y S W H:Int) (n nc:Nat)
def MpA (cs:List (List Int)):Mem:=Mp X Y S W H (.va 2 0 n 15) nc cs [some ⟨.rrecs (i64s 15) it,39⟩,bx]
theorem in_loop (row:Int) (hn:it.length = n) (h1:it.length ≤ 1000) (hr:0 ≤ row * W) (hl:0 ≤ left) (hb:row * W + right ≤ nc) (hnc:nc ≤ 1000000) {tm:List MV} {k:Int} {cs:List (List Int)} {q:Nat}
  (h:IsTM tm left right top bottom row k) (hk0:0 ≤ k) (hk:k ≤ right) (hcs:cs.length = nc) :
  XR Try.prog A3.env (cut c56 [1,1,1,0,1,0,0,1,0,0,1,0]) tm (MpA it bx X Y S W H n nc cs ++ List.replicate q none) (fun e tm' m' => e = .exit 2 ∧ IsTM tm' left right top bottom row right ∧ ∃ q',m' = MpA it bx X Y S W H n nc (rowP it X Y S W row (right - k).toNat k cs) ++ List.replicate q' none):=by
 have e:cut c56 [1,1,1,0,1,0,0,1,0,0,1,0] = .loop (cut c56 [1,1,1,0,1,0,0,1,0,0,1,0,0]):=by kernel_rfl
 refine XR.cast e ?_
 refine XR.loop (fun j tm m => ∃ (k':Int) (cs':List (List Int)) (q':Nat),IsTM tm left right top bottom row k' ∧ m = MpA it bx X Y S W H n nc cs' ++ List.replicate q' none ∧ 0 ≤ k' ∧ k' ≤ right ∧ cs'.length = nc ∧ j = (right - k').toNat ∧
  rowP it X Y S W row (right - k').toNat k' cs' = rowP it X Y S W row (right - k).toNat k cs) ?_ (j:=(right - k).toNat) ⟨k,cs,q,h,rfl,hk0,hk,hcs,rfl,rfl⟩
 rintro j tm m ⟨k',cs',q',g1,rfl,g2,g3,g4,rfl,g5⟩
 refine XR.trim ?_
 obtain ⟨u,rfl⟩:=g1.eq
 by_cases hlt:k' < right
 ·obtain ⟨tm',t1,t2⟩:=in_round u left right top bottom row k' X Y S W H n nc cs' it bx hlt hn h1 g4 (by rw [w6_id (n:=row * W) (by omega) (by omega),w6_id (by omega) (by omega)]) (w6_id (by omega) (by omega)) (by omega)
  refine XR.of_x E_ok A3_ok mixed t2 ?_
  refine ⟨(right - (k' + 1)).toNat,by omega,k' + 1,_,52,t1,rfl,by omega,by omega,by simpa using g4,rfl,?_⟩
  rw [← g5]
  have:(right - k').toNat = (right - (k' + 1)).toNat + 1:=by omega
  rw [this,rowP]
 ·obtain ⟨tm',t1,t2⟩:=in_end u left right top bottom row k' X Y S W H n nc cs' it bx hlt
  refine XR.of_x E_ok A3_ok mixed t2 ?_
  have hk':k' = right:=by omega
  subst hk'
  refine ⟨rfl,t1,0,?_⟩
  have:(k' - k').toNat = 0:=by omega
  rw [this,rowP] at g5
  rw [← g5]
  simp [MpA]
end
end Go.Proofs.Ytppklhfiajjhmaa.Ti
end
section
namespace Go.Proofs.Ytppklhfiajjhmaa.Ti
open Go Go.RowKit Go.Proofs.Ytppklhfiajjhmaa.Y
set_option linter.unusedVariables false
set_option linter.unusedSimpArgs false
theorem list_eq {tm p:List MV} {N:Nat} (hl:tm.length = N) (hq:p.length ≤ N) (h:∀ i,i < p.length → tm[i]? = p[i]?):tm = p ++ (List.range (N - p.length)).map (fun i => tm.getD (i + p.length) (.val undef)):=by
 apply List.ext_getElem?
 intro i
 rcases Nat.lt_or_ge i p.length with hi | hi
 ·rw [List.getElem?_append_left hi,h i hi]
 ·rw [List.getElem?_append_right hi,List.getElem?_map]
  rcases Nat.lt_or_ge i N with hi2 | hi2
  ·rw [List.getElem?_range (by omega),List.getElem?_eq_getElem (by omega)]
   simp only [Option.map_some]
   rw [show i - p.length + p.length = i by omega,List.getD_eq_getElem?_getD,List.getElem?_eq_getElem (by omega)]
   rfl
  ·rw [List.getElem?_eq_none (by omega),List.getElem?_eq_none (by simp; omega)]
   rfl
def TO (u:Nat → MV) (left right top bottom row:Int):List MV :=
 [.ptr 0 0,u 1,u 2,u 3,u 4,iv left,iv right,iv top,iv bottom,iv row] ++ (List.range 119).map (fun i => u (i + 10))
structure IsTO (tm:List MV) (left right top bottom row:Int):Prop where
 len:tm.length = 129
 h0:tm[0]? = some (.ptr 0 0)
 h5:tm[5]? = some (iv left)
 h6:tm[6]? = some (iv right)
 h7:tm[7]? = some (iv top)
 h8:tm[8]? = some (iv bottom)
 h9:tm[9]? = some (iv row)
theorem get_u {tm:List MV} {i N:Nat} (h:tm.length = N) (hi:i < N):tm[i]? = some (tm.getD i (.val undef)):=by
 rw [List.getD_eq_getElem?_getD,List.getElem?_eq_getElem (by omega)]; rfl
theorem IsTO.eq {tm:List MV} {left right top bottom row:Int} (h:IsTO tm left right top bottom row):∃ u,tm = TO u left right top bottom row:=by
 refine ⟨fun i => tm.getD i (.val undef),list_eq (p:=[.ptr 0 0,_,_,_,_,iv left,iv right,iv top,iv bottom,iv row]) h.len (by simp) (fun i hi => ?_)⟩
 match i,hi with
 | 0,_ => exact h.h0
 | 1,_ => exact get_u h.len (by omega)
 | 2,_ => exact get_u h.len (by omega)
 | 3,_ => exact get_u h.len (by omega)
 | 4,_ => exact get_u h.len (by omega)
 | 5,_ => exact h.h5
 | 6,_ => exact h.h6
 | 7,_ => exact h.h7
 | 8,_ => exact h.h8
 | 9,_ => exact h.h9
theorem IsTM.o {tm:List MV} {left right top bottom row k:Int} (h:IsTM tm left right top bottom row k):IsTO tm left right top bottom row:=⟨h.len,h.h0,h.h5,h.h6,h.h7,h.h8,h.h9⟩
set_option maxRecDepth 100000 in
theorem outHead (u:Nat → MV) (left right top bottom row X Y S W H:Int) (n nc:Nat) (cs it:List (List Int)) (bx:Option Blk) (kk:KE):xcode Try.prog E A3 1 (cut c56 [1,1,1,0,1,0,0,0]) (TO u left right top bottom row) (Mp X Y S W H (.va 2 0 n 15) nc cs [some ⟨.rrecs (i64s 15) it,39⟩,bx]) kk =
  bif decide (row < bottom) then kk XE.normal [MV.ptr 0 0,u 1,u 2,u 3,u 4,iv left,iv right,iv top,iv bottom,iv row,u 10,u 11,u 12,u 13,u 14,u 15,u 16,u 17,u 18,u 19,u 20,u 21,u 22,u 23,u 24,u 25,u 26,u 27,u 28,u 29,u 30,u 31,u 32,u 33,u 34,u 35,u 36,u 37,u 38,u 39,u 40,u 41,u 42,u 43,u 44,u 45,u 46,u 47,u 48,u 49,u 50,u 51,u 52,iv row,iv bottom,MV.val (Value.bool true),u 56,u 57,u 58,u 59,u 60,u 61,u 62,u 63,u 64,u 65,u 66,u 67,u 68,u 69,u 70,u 71,u 72,u 73,u 74,u 75,u 76,u 77,u 78,u 79,u 80,u 81,u 82,u 83,u 84,u 85,u 86,u 87,u 88,u 89,u 90,u 91,u 92,u 93,u 94,u 95,u 96,u 97,u 98,u 99,u 100,u 101,u 102,u 103,u 104,u 105,u 106,u 107,u 108,u 109,u 110,u 111,u 112,u 113,u 114,u 115,u 116,u 117,u 118,u 119,u 120,u 121,u 122,u 123,u 124,u 125,u 126,u 127,u 128] [some { row:=Row.rlst [iv X,iv Y,iv S,iv W,iv H,MV.va 2 0 n 15,MV.va 1 0 nc 1],ty:=90 },some { row:=Row.recs [some IntKind.i64] cs,ty:=2 },some { row:=Row.rrecs [some IntKind.i64,some IntKind.i64,some IntKind.i64,some IntKind.i64,some IntKind.i64,some IntKind.i64,some IntKind.i64,some IntKind.i64,some IntKind.i64,some IntKind.i64,some IntKind.i64,some IntKind.i64,some IntKind.i64,some IntKind.i64,some IntKind.i64] it,ty:=39 },bx] else kk (XE.exit 0) [MV.ptr 0 0,u 1,u 2,u 3,u 4,iv left,iv right,iv top,iv bottom,iv row,u 10,u 11,u 12,u 13,u 14,u 15,u 16,u 17,u 18,u 19,u 20,u 21,u 22,u 23,u 24,u 25,u 26,u 27,u 28,u 29,u 30,u 31,u 32,u 33,u 34,u 35,u 36,u 37,u 38,u 39,u 40,u 41,u 42,u 43,u 44,u 45,u 46,u 47,u 48,u 49,u 50,u 51,u 52,iv row,iv bottom,MV.val (Value.bool false),u 56,u 57,u 58,u 59,u 60,u 61,u 62,u 63,u 64,u 65,u 66,u 67,u 68,u 69,u 70,u 71,u 72,u 73,u 74,u 75,u 76,u 77,u 78,u 79,u 80,u 81,u 82,u 83,u 84,u 85,u 86,u 87,u 88,u 89,u 90,u 91,u 92,u 93,u 94,u 95,u 96,u 97,u 98,u 99,u 100,u 101,u 102,u 103,u 104,u 105,u 106,u 107,u 108,u 109,u 110,u 111,u 112,u 113,u 114,u 115,u 116,u 117,u 118,u 119,u 120,u 121,u 122,u 123,u 124,u 125,u 126,u 127,u 128] [some { row:=Row.rlst [iv X,iv Y,iv S,iv W,iv H,MV.va 2 0 n 15,MV.va 1 0 nc 1],ty:=90 },some { row:=Row.recs [some IntKind.i64] cs,ty:=2 },some { row:=Row.rrecs [some IntKind.i64,some IntKind.i64,some IntKind.i64,some IntKind.i64,some IntKind.i64,some IntKind.i64,some IntKind.i64,some IntKind.i64,some IntKind.i64,some IntKind.i64,some IntKind.i64,some IntKind.i64,some IntKind.i64,some IntKind.i64,some IntKind.i64] it,ty:=39 },bx]:=by kernel_rfl
set_option maxRecDepth 100000 in
theorem outInit (u:Nat → MV) (left right top bottom row X Y S W H:Int) (n nc:Nat) (cs it:List (List Int)) (bx:Option Blk) (kk:KE):xcode Try.prog E A3 1 (cut c56 [1,1,1,0,1,0,0,1,0,0,0]) (TO u left right top bottom row) (Mp X Y S W H (.va 2 0 n 15) nc cs [some ⟨.rrecs (i64s 15) it,39⟩,bx]) kk =
  kk XE.normal [MV.ptr 0 0,u 1,u 2,u 3,u 4,iv left,iv right,iv top,iv bottom,iv row,iv left,u 11,u 12,u 13,u 14,u 15,u 16,u 17,u 18,u 19,u 20,u 21,u 22,u 23,u 24,u 25,u 26,u 27,u 28,u 29,u 30,u 31,u 32,u 33,u 34,u 35,u 36,u 37,u 38,u 39,u 40,u 41,u 42,u 43,u 44,u 45,u 46,u 47,u 48,u 49,u 50,u 51,u 52,u 53,u 54,u 55,u 56,u 57,iv left,u 59,u 60,u 61,u 62,u 63,u 64,u 65,u 66,u 67,u 68,u 69,u 70,u 71,u 72,u 73,u 74,u 75,u 76,u 77,u 78,u 79,u 80,u 81,u 82,u 83,u 84,u 85,u 86,u 87,u 88,u 89,u 90,u 91,u 92,u 93,u 94,u 95,u 96,u 97,u 98,u 99,u 100,u 101,u 102,u 103,u 104,u 105,u 106,u 107,u 108,u 109,u 110,u 111,u 112,u 113,u 114,u 115,u 116,u 117,u 118,u 119,u 120,u 121,u 122,u 123,u 124,u 125,u 126,u 127,u 128] [some { row:=Row.rlst [iv X,iv Y,iv S,iv W,iv H,MV.va 2 0 n 15,MV.va 1 0 nc 1],ty:=90 },some { row:=Row.recs [some IntKind.i64] cs,ty:=2 },some { row:=Row.rrecs [some IntKind.i64,some IntKind.i64,some IntKind.i64,some IntKind.i64,some IntKind.i64,some IntKind.i64,some IntKind.i64,some IntKind.i64,some IntKind.i64,some IntKind.i64,some IntKind.i64,some IntKind.i64,some IntKind.i64,some IntKind.i64,some IntKind.i64] it,ty:=39 },bx]:=by kernel_rfl
set_option maxRecDepth 100000 in
theorem outNext (u:Nat → MV) (left right top bottom row k X Y S W H:Int) (n nc:Nat) (cs it:List (List Int)) (bx:Option Blk) (kk:KE):xcode Try.prog E A3 1 (cut c56 [1,1,1,0,1,0,0,1,1]) (TM u left right top bottom row k) (Mp X Y S W H (.va 2 0 n 15) nc cs [some ⟨.rrecs (i64s 15) it,39⟩,bx]) kk =
  kk XE.normal [MV.ptr 0 0,u 1,u 2,u 3,u 4,iv left,iv right,iv top,iv bottom,iv (IntKind.wrap IntKind.i64 (row + 1)),iv k,u 11,u 12,u 13,u 14,u 15,u 16,u 17,u 18,u 19,u 20,u 21,u 22,u 23,u 24,u 25,u 26,u 27,u 28,u 29,u 30,u 31,u 32,u 33,u 34,u 35,u 36,u 37,u 38,u 39,u 40,u 41,u 42,u 43,u 44,u 45,u 46,u 47,u 48,u 49,u 50,u 51,u 52,u 53,u 54,u 55,iv row,iv (IntKind.wrap IntKind.i64 (row + 1)),u 58,u 59,u 60,u 61,u 62,u 63,u 64,u 65,u 66,u 67,u 68,u 69,u 70,u 71,u 72,u 73,u 74,u 75,u 76,u 77,u 78,u 79,u 80,u 81,u 82,u 83,u 84,u 85,u 86,u 87,u 88,u 89,u 90,u 91,u 92,u 93,u 94,u 95,u 96,u 97,u 98,u 99,u 100,u 101,u 102,u 103,u 104,u 105,u 106,u 107,u 108,u 109,u 110,u 111,u 112,u 113,u 114,u 115,u 116,u 117,u 118,u 119,u 120,u 121,u 122,u 123,u 124,u 125,u 126,u 127,u 128] [some { row:=Row.rlst [iv X,iv Y,iv S,iv W,iv H,MV.va 2 0 n 15,MV.va 1 0 nc 1],ty:=90 },some { row:=Row.recs [some IntKind.i64] cs,ty:=2 },some { row:=Row.rrecs [some IntKind.i64,some IntKind.i64,some IntKind.i64,some IntKind.i64,some IntKind.i64,some IntKind.i64,some IntKind.i64,some IntKind.i64,some IntKind.i64,some IntKind.i64,some IntKind.i64,some IntKind.i64,some IntKind.i64,some IntKind.i64,some IntKind.i64] it,ty:=39 },bx]:=by kernel_rfl
def gridP (it:List (List Int)) (X Y S W left right:Int):Nat → Int → List (List Int) → List (List Int)
 | 0,_,cs => cs
 | d + 1,row,cs => gridP it X Y S W left right d (row + 1) (rowP it X Y S W row (right - left).toNat left cs)
theorem gridP_len (it:List (List Int)) (X Y S W left right:Int):∀ (d:Nat) (row:Int) (cs:List (List Int)),(gridP it X Y S W left right d row cs).length = cs.length
 | 0,_,_ => rfl
 | d + 1,row,cs => by rw [gridP,gridP_len it X Y S W left right d,rowP_len]
section
variable (it:List (List Int)) (bx:Option Blk) (left right top bottom X Y S W H:Int) (n nc:Nat)
theorem out_loop (hn:it.length = n) (h1:it.length ≤ 1000) (hW:0 ≤ W) (hl:0 ≤ left) (hlr:left ≤ right) (hrW:right ≤ W) (hbW:bottom * W ≤ nc) (hnc:nc ≤ 1000000) (hb0:bottom ≤ 1000000) {tm:List MV} {row:Int} {cs:List (List Int)} {q:Nat}
  (h:IsTO tm left right top bottom row) (hr0:0 ≤ row) (hr:row ≤ bottom) (hcs:cs.length = nc) :
  XR Try.prog A3.env (cut c56 [1,1,1,0,1,0]) tm (MpA it bx X Y S W H n nc cs ++ List.replicate q none) (fun e tm' m' => e = .exit 0 ∧ IsTO tm' left right top bottom bottom ∧ ∃ q',m' = MpA it bx X Y S W H n nc (gridP it X Y S W left right (bottom - row).toNat row cs) ++ List.replicate q' none):=by
 have e:cut c56 [1,1,1,0,1,0] = .loop (.seq (cut c56 [1,1,1,0,1,0,0,0]) (.seq (.block 1 (.seq (cut c56 [1,1,1,0,1,0,0,1,0,0,0]) (.block 2 (cut c56 [1,1,1,0,1,0,0,1,0,0,1,0])))) (cut c56 [1,1,1,0,1,0,0,1,1]))):=by kernel_rfl
 refine XR.cast e ?_
 refine XR.loop (fun j tm m => ∃ (row':Int) (cs':List (List Int)) (q':Nat),IsTO tm left right top bottom row' ∧ m = MpA it bx X Y S W H n nc cs' ++ List.replicate q' none ∧ 0 ≤ row' ∧ row' ≤ bottom ∧ cs'.length = nc ∧ j = (bottom - row').toNat ∧
  gridP it X Y S W left right (bottom - row').toNat row' cs' = gridP it X Y S W left right (bottom - row).toNat row cs) ?_ (j:=(bottom - row).toNat) ⟨row,cs,q,h,rfl,hr0,hr,hcs,rfl,rfl⟩
 rintro j tm m ⟨row',cs',q',g1,rfl,g2,g3,g4,rfl,g5⟩
 refine XR.trim ?_
 obtain ⟨u,rfl⟩:=g1.eq
 refine XR.seq ?_
 by_cases hlt:row' < bottom
 ·have c1:decide (row' < bottom) = true:=decide_eq_true hlt
  have hm:row' * W + W ≤ nc:=by
   have:(row' + 1) * W ≤ bottom * W:=Int.mul_le_mul_of_nonneg_right (by omega) hW
   rw [Int.add_mul,Int.one_mul] at this
   omega
  have hm0:0 ≤ row' * W:=Int.mul_nonneg g2 hW
  obtain ⟨tm1,a1,a2⟩:∃ tm',IsTO tm' left right top bottom row' ∧ ∀ kk:KE,xcode Try.prog E A3 1 (cut c56 [1,1,1,0,1,0,0,0]) (TO u left right top bottom row') (MpA it bx X Y S W H n nc cs') kk = kk .normal tm' (MpA it bx X Y S W H n nc cs'):=by
   refine And_swap ?_
   apply Exists.intro
   refine ⟨fun kk => ?_,?_⟩
   ·unfold MpA
    rw [outHead]
    simp only [c1,cond_true,Mp]
    rfl
   ·exact ⟨rfl,rfl,rfl,rfl,rfl,rfl,rfl⟩
  refine XR.of_x E_ok A3_ok mixed a2 ?_
  refine XR.seq ?_
  refine XR.block ?_
  refine XR.seq ?_
  obtain ⟨u1,rfl⟩:=a1.eq
  obtain ⟨tm2,b1,b2⟩:∃ tm',IsTM tm' left right top bottom row' left ∧ ∀ kk:KE,xcode Try.prog E A3 1 (cut c56 [1,1,1,0,1,0,0,1,0,0,0]) (TO u1 left right top bottom row') (MpA it bx X Y S W H n nc cs') kk = kk .normal tm' (MpA it bx X Y S W H n nc cs'):=by
   refine And_swap ?_
   apply Exists.intro
   refine ⟨fun kk => ?_,?_⟩
   ·unfold MpA
    rw [outInit]
    simp only [Mp]
    rfl
   ·exact ⟨rfl,rfl,rfl,rfl,rfl,rfl,rfl,rfl⟩
  refine XR.of_x E_ok A3_ok mixed b2 ?_
  refine XR.block ?_
  have hin:=in_loop it bx left right top bottom X Y S W H n nc row' (cs:=cs') (q:=0) hn h1 hm0 hl (by omega) hnc b1 hl hlr g4
  simp only [List.replicate_zero,List.append_nil] at hin
  refine hin.mono ?_
  rintro e1 tm3 m3 ⟨rfl,d1,q3,rfl⟩
  simp only [if_true]
  refine XR.trim ?_
  obtain ⟨u3,rfl⟩:=d1.eq
  obtain ⟨tm4,f1,f2⟩:∃ tm',IsTM tm' left right top bottom (row' + 1) right ∧ ∀ kk:KE,xcode Try.prog E A3 1 (cut c56 [1,1,1,0,1,0,0,1,1]) (TM u3 left right top bottom row' right) (MpA it bx X Y S W H n nc (rowP it X Y S W row' (right - left).toNat left cs')) kk = kk .normal tm' (MpA it bx X Y S W H n nc (rowP it X Y S W row' (right - left).toNat left cs')):=by
   have hw:w6 (row' + 1) = row' + 1:=w6_id (by omega) (by omega)
   refine And_swap ?_
   apply Exists.intro
   refine ⟨fun kk => ?_,?_⟩
   ·unfold MpA
    rw [outNext]
    simp only [hw,Mp]
    rfl
   ·exact ⟨rfl,rfl,rfl,rfl,rfl,rfl,rfl,rfl⟩
  refine XR.of_x E_ok A3_ok mixed f2 ?_
  refine ⟨(bottom - (row' + 1)).toNat,by omega,row' + 1,rowP it X Y S W row' (right - left).toNat left cs',0,f1.o,by simp,by omega,by omega,by rw [rowP_len]; exact g4,rfl,?_⟩
  rw [← g5]
  have:(bottom - row').toNat = (bottom - (row' + 1)).toNat + 1:=by omega
  rw [this,gridP]
 ·have c1:decide (row' < bottom) = false:=decide_eq_false hlt
  obtain ⟨tm1,a1,a2⟩:∃ tm',IsTO tm' left right top bottom row' ∧ ∀ kk:KE,xcode Try.prog E A3 1 (cut c56 [1,1,1,0,1,0,0,0]) (TO u left right top bottom row') (MpA it bx X Y S W H n nc cs') kk = kk (.exit 0) tm' (MpA it bx X Y S W H n nc cs'):=by
   refine And_swap ?_
   apply Exists.intro
   refine ⟨fun kk => ?_,?_⟩
   ·unfold MpA
    rw [outHead]
    simp only [c1,cond_false,Mp]
    rfl
   ·exact ⟨rfl,rfl,rfl,rfl,rfl,rfl,rfl⟩
  refine XR.of_x E_ok A3_ok mixed a2 ?_
  have hb:row' = bottom:=by omega
  subst hb
  refine ⟨rfl,a1,0,?_⟩
  have:(row' - row').toNat = 0:=by omega
  rw [this,gridP] at g5
  rw [← g5]
  simp
end
end Go.Proofs.Ytppklhfiajjhmaa.Ti
end
section
namespace Go.Proofs.Ytppklhfiajjhmaa.Ti
open Go Go.RowKit Go.Proofs.Ytppklhfiajjhmaa.Y
set_option linter.unusedVariables false
set_option linter.unusedSimpArgs false
def TB (u:Nat → MV) (left right:MV):List MV :=
 [.ptr 0 0,u 1,u 2,.ptr 3 0,u 4,left,right] ++ (List.range 122).map (fun i => u (i + 7))
structure IsTB (tm:List MV) (left right:MV):Prop where
 len:tm.length = 129
 h0:tm[0]? = some (.ptr 0 0)
 h3:tm[3]? = some (.ptr 3 0)
 h5:tm[5]? = some left
 h6:tm[6]? = some right
theorem IsTB.eq {tm:List MV} {left right:MV} (h:IsTB tm left right):∃ u,tm = TB u left right:=by
 refine ⟨fun i => tm.getD i (.val undef),list_eq (p:=[.ptr 0 0,_,_,.ptr 3 0,_,left,right]) h.len (by simp) (fun i hi => ?_)⟩
 match i,hi with
 | 0,_ => exact h.h0
 | 1,_ => exact get_u h.len (by omega)
 | 2,_ => exact get_u h.len (by omega)
 | 3,_ => exact h.h3
 | 4,_ => exact get_u h.len (by omega)
 | 5,_ => exact h.h5
 | 6,_ => exact h.h6
def TD (u:Nat → MV) (left right top bottom:Int):List MV :=
 [.ptr 0 0,u 1,u 2,u 3,u 4,iv left,iv right,iv top,iv bottom] ++ (List.range 120).map (fun i => u (i + 9))
structure IsTD (tm:List MV) (left right top bottom:Int):Prop where
 len:tm.length = 129
 h0:tm[0]? = some (.ptr 0 0)
 h5:tm[5]? = some (iv left)
 h6:tm[6]? = some (iv right)
 h7:tm[7]? = some (iv top)
 h8:tm[8]? = some (iv bottom)
theorem IsTD.eq {tm:List MV} {left right top bottom:Int} (h:IsTD tm left right top bottom):∃ u,tm = TD u left right top bottom:=by
 refine ⟨fun i => tm.getD i (.val undef),list_eq (p:=[.ptr 0 0,_,_,_,_,iv left,iv right,iv top,iv bottom]) h.len (by simp) (fun i hi => ?_)⟩
 match i,hi with
 | 0,_ => exact h.h0
 | 1,_ => exact get_u h.len (by omega)
 | 2,_ => exact get_u h.len (by omega)
 | 3,_ => exact get_u h.len (by omega)
 | 4,_ => exact get_u h.len (by omega)
 | 5,_ => exact h.h5
 | 6,_ => exact h.h6
 | 7,_ => exact h.h7
 | 8,_ => exact h.h8
set_option maxRecDepth 100000 in
theorem pR0 (x0 y0 x1 y1 X Y S W H:Int) (n nc:Nat) (cs it:List (List Int)) (kk:KE):xcode Try.prog E A3 1 (cut c56 [0]) ([.ptr 0 0,.agg [iv x0,iv y0,iv x1,iv y1]] ++ List.replicate 127 (.val undef)) (Mp X Y S W H (.va 2 0 n 15) nc cs [some ⟨.rrecs (i64s 15) it,39⟩]) kk =
  kk XE.normal [MV.ptr 0 0,MV.agg [iv x0,iv y0,iv x1,iv y1],MV.val (Value.tuple { toList:=[] }),MV.ptr 3 0,iv 0,MV.val (Value.tuple { toList:=[] }),MV.val (Value.tuple { toList:=[] }),MV.val (Value.tuple { toList:=[] }),MV.val (Value.tuple { toList:=[] }),MV.val (Value.tuple { toList:=[] }),MV.val (Value.tuple { toList:=[] }),MV.val (Value.tuple { toList:=[] }),MV.val (Value.tuple { toList:=[] }),MV.val (Value.tuple { toList:=[] }),MV.val (Value.tuple { toList:=[] }),MV.val (Value.tuple { toList:=[] }),MV.val (Value.tuple { toList:=[] }),MV.val (Value.tuple { toList:=[] }),MV.val (Value.tuple { toList:=[] }),MV.val (Value.tuple { toList:=[] }),MV.val (Value.tuple { toList:=[] }),MV.val (Value.tuple { toList:=[] }),MV.val (Value.tuple { toList:=[] }),MV.val (Value.tuple { toList:=[] }),MV.val (Value.tuple { toList:=[] }),MV.val (Value.tuple { toList:=[] }),MV.val (Value.tuple { toList:=[] }),MV.val (Value.tuple { toList:=[] }),MV.val (Value.tuple { toList:=[] }),MV.val (Value.tuple { toList:=[] }),MV.val (Value.tuple { toList:=[] }),MV.val (Value.tuple { toList:=[] }),MV.val (Value.tuple { toList:=[] }),MV.val (Value.tuple { toList:=[] }),MV.val (Value.tuple { toList:=[] }),MV.val (Value.tuple { toList:=[] }),MV.val (Value.tuple { toList:=[] }),MV.val (Value.tuple { toList:=[] }),MV.val (Value.tuple { toList:=[] }),MV.val (Value.tuple { toList:=[] }),MV.val (Value.tuple { toList:=[] }),MV.val (Value.tuple { toList:=[] }),MV.val (Value.tuple { toList:=[] }),MV.val (Value.tuple { toList:=[] }),MV.val (Value.tuple { toList:=[] }),MV.val (Value.tuple { toList:=[] }),MV.val (Value.tuple { toList:=[] }),MV.val (Value.tuple { toList:=[] }),MV.val (Value.tuple { toList:=[] }),MV.val (Value.tuple { toList:=[] }),MV.val (Value.tuple { toList:=[] }),MV.val (Value.tuple { toList:=[] }),MV.val (Value.tuple { toList:=[] }),MV.val (Value.tuple { toList:=[] }),MV.val (Value.tuple { toList:=[] }),MV.val (Value.tuple { toList:=[] }),MV.val (Value.tuple { toList:=[] }),MV.val (Value.tuple { toList:=[] }),MV.val (Value.tuple { toList:=[] }),MV.val (Value.tuple { toList:=[] }),MV.val (Value.tuple { toList:=[] }),MV.val (Value.tuple { toList:=[] }),MV.val (Value.tuple { toList:=[] }),MV.val (Value.tuple { toList:=[] }),MV.val (Value.tuple { toList:=[] }),MV.val (Value.tuple { toList:=[] }),MV.val (Value.tuple { toList:=[] }),MV.val (Value.tuple { toList:=[] }),MV.val (Value.tuple { toList:=[] }),MV.val (Value.tuple { toList:=[] }),MV.val (Value.tuple { toList:=[] }),MV.val (Value.tuple { toList:=[] }),MV.val (Value.tuple { toList:=[] }),MV.val (Value.tuple { toList:=[] }),MV.val (Value.tuple { toList:=[] }),MV.val (Value.tuple { toList:=[] }),MV.val (Value.tuple { toList:=[] }),MV.val (Value.tuple { toList:=[] }),MV.val (Value.tuple { toList:=[] }),MV.val (Value.tuple { toList:=[] }),MV.val (Value.tuple { toList:=[] }),MV.val (Value.tuple { toList:=[] }),MV.val (Value.tuple { toList:=[] }),MV.val (Value.tuple { toList:=[] }),MV.val (Value.tuple { toList:=[] }),MV.val (Value.tuple { toList:=[] }),MV.val (Value.tuple { toList:=[] }),MV.val (Value.tuple { toList:=[] }),MV.val (Value.tuple { toList:=[] }),MV.val (Value.tuple { toList:=[] }),MV.val (Value.tuple { toList:=[] }),MV.val (Value.tuple { toList:=[] }),MV.val (Value.tuple { toList:=[] }),MV.val (Value.tuple { toList:=[] }),MV.val (Value.tuple { toList:=[] }),MV.val (Value.tuple { toList:=[] }),MV.val (Value.tuple { toList:=[] }),MV.val (Value.tuple { toList:=[] }),MV.val (Value.tuple { toList:=[] }),MV.val (Value.tuple { toList:=[] }),MV.val (Value.tuple { toList:=[] }),MV.val (Value.tuple { toList:=[] }),MV.val (Value.tuple { toList:=[] }),MV.val (Value.tuple { toList:=[] }),MV.val (Value.tuple { toList:=[] }),MV.val (Value.tuple { toList:=[] }),MV.val (Value.tuple { toList:=[] }),MV.val (Value.tuple { toList:=[] }),MV.val (Value.tuple { toList:=[] }),MV.val (Value.tuple { toList:=[] }),MV.val (Value.tuple { toList:=[] }),MV.val (Value.tuple { toList:=[] }),MV.val (Value.tuple { toList:=[] }),MV.val (Value.tuple { toList:=[] }),MV.val (Value.tuple { toList:=[] }),MV.val (Value.tuple { toList:=[] }),MV.val (Value.tuple { toList:=[] }),MV.val (Value.tuple { toList:=[] }),MV.val (Value.tuple { toList:=[] }),MV.val (Value.tuple { toList:=[] }),MV.val (Value.tuple { toList:=[] }),MV.val (Value.tuple { toList:=[] }),MV.val (Value.tuple { toList:=[] }),MV.val (Value.tuple { toList:=[] }),MV.val (Value.tuple { toList:=[] }),MV.val (Value.tuple { toList:=[] }),MV.val (Value.tuple { toList:=[] }),MV.val (Value.tuple { toList:=[] }),MV.val (Value.tuple { toList:=[] })] [some { row:=Row.rlst [iv X,iv Y,iv S,iv W,iv H,MV.va 2 0 n 15,MV.va 1 0 nc 1],ty:=90 },some { row:=Row.recs [some IntKind.i64] cs,ty:=2 },some { row:=Row.rrecs [some IntKind.i64,some IntKind.i64,some IntKind.i64,some IntKind.i64,some IntKind.i64,some IntKind.i64,some IntKind.i64,some IntKind.i64,some IntKind.i64,some IntKind.i64,some IntKind.i64,some IntKind.i64,some IntKind.i64,some IntKind.i64,some IntKind.i64] it,ty:=39 },some { row:=Row.lst [iv x0,iv y0,iv x1,iv y1],ty:=37 }]:=by kernel_rfl
set_option maxRecDepth 100000 in
theorem pR1 (u:Nat → MV) (l r:MV) (x0 y0 x1 y1 X Y S W H:Int) (n nc:Nat) (cs it:List (List Int)) (kk:KE):xcode Try.prog E A3 1 (cut c56 [1,0]) (TB u l r) (Mp X Y S W H (.va 2 0 n 15) nc cs [some ⟨.rrecs (i64s 15) it,39⟩,some ⟨.lst [iv x0,iv y0,iv x1,iv y1],37⟩]) kk =
  bif !decide (S = 0) then kk XE.normal [MV.ptr 0 0,u 1,u 2,MV.ptr 3 0,u 4,iv (loI X x0 S W),iv (hiI X x0 x1 S W),u 7,u 8,u 9,u 10,u 11,u 12,u 13,MV.tup [iv (loI X x0 S W),iv (hiI X x0 x1 S W)],MV.ptr 0 0,MV.ptr 0 0,MV.ptr 0 0,MV.ptr 0 0,MV.ptr 0 0,iv X,MV.ptr 3 0,iv x0,MV.ptr 3 2,iv x1,MV.ptr 0 0,MV.ptr 0 0,MV.ptr 0 0,MV.ptr 0 3,iv W,MV.tup [iv (loI X x0 S W),iv (hiI X x0 x1 S W)],iv (loI X x0 S W),iv (hiI X x0 x1 S W),u 33,u 34,u 35,u 36,u 37,u 38,u 39,u 40,u 41,u 42,u 43,u 44,u 45,u 46,u 47,u 48,u 49,u 50,u 51,u 52,u 53,u 54,u 55,u 56,u 57,u 58,u 59,u 60,u 61,u 62,u 63,u 64,u 65,u 66,u 67,u 68,u 69,u 70,u 71,u 72,u 73,u 74,u 75,u 76,u 77,u 78,u 79,u 80,u 81,u 82,u 83,u 84,u 85,u 86,u 87,u 88,u 89,u 90,u 91,u 92,u 93,u 94,u 95,u 96,u 97,u 98,u 99,u 100,u 101,u 102,u 103,u 104,u 105,u 106,u 107,u 108,u 109,u 110,u 111,u 112,u 113,u 114,u 115,u 116,u 117,u 118,u 119,u 120,u 121,u 122,u 123,u 124,u 125,u 126,u 127,u 128] [some { row:=Row.rlst [iv X,iv Y,iv S,iv W,iv H,MV.va 2 0 n 15,MV.va 1 0 nc 1],ty:=90 },some { row:=Row.recs [some IntKind.i64] cs,ty:=2 },some { row:=Row.rrecs [some IntKind.i64,some IntKind.i64,some IntKind.i64,some IntKind.i64,some IntKind.i64,some IntKind.i64,some IntKind.i64,some IntKind.i64,some IntKind.i64,some IntKind.i64,some IntKind.i64,some IntKind.i64,some IntKind.i64,some IntKind.i64,some IntKind.i64] it,ty:=39 },some { row:=Row.lst [iv x0,iv y0,iv x1,iv y1],ty:=37 },none,none,none,none,none,none,none,none,none,none,none,none,none,none,none,none,none,none,none,none,none] else none:=by kernel_rfl
set_option maxRecDepth 100000 in
theorem pR2 (u:Nat → MV) (l r:MV) (x0 y0 x1 y1 X Y S W H:Int) (n nc:Nat) (cs it:List (List Int)) (kk:KE):xcode Try.prog E A3 1 (cut c56 [1,1,0]) (TB u l r) (Mp X Y S W H (.va 2 0 n 15) nc cs [some ⟨.rrecs (i64s 15) it,39⟩,some ⟨.lst [iv x0,iv y0,iv x1,iv y1],37⟩]) kk =
  bif !decide (S = 0) then kk XE.normal [MV.ptr 0 0,u 1,u 2,MV.ptr 3 0,u 4,l,r,iv (loI Y y0 S H),iv (hiI Y y0 y1 S H),u 9,u 10,u 11,u 12,u 13,u 14,u 15,u 16,u 17,u 18,u 19,u 20,u 21,u 22,u 23,u 24,u 25,u 26,u 27,u 28,u 29,u 30,u 31,u 32,MV.tup [iv (loI Y y0 S H),iv (hiI Y y0 y1 S H)],MV.ptr 0 0,MV.ptr 0 0,MV.ptr 0 0,MV.ptr 0 0,MV.ptr 0 1,iv Y,MV.ptr 3 1,iv y0,MV.ptr 3 3,iv y1,MV.ptr 0 0,MV.ptr 0 0,MV.ptr 0 0,MV.ptr 0 4,iv H,MV.tup [iv (loI Y y0 S H),iv (hiI Y y0 y1 S H)],iv (loI Y y0 S H),iv (hiI Y y0 y1 S H),u 52,u 53,u 54,u 55,u 56,u 57,u 58,u 59,u 60,u 61,u 62,u 63,u 64,u 65,u 66,u 67,u 68,u 69,u 70,u 71,u 72,u 73,u 74,u 75,u 76,u 77,u 78,u 79,u 80,u 81,u 82,u 83,u 84,u 85,u 86,u 87,u 88,u 89,u 90,u 91,u 92,u 93,u 94,u 95,u 96,u 97,u 98,u 99,u 100,u 101,u 102,u 103,u 104,u 105,u 106,u 107,u 108,u 109,u 110,u 111,u 112,u 113,u 114,u 115,u 116,u 117,u 118,u 119,u 120,u 121,u 122,u 123,u 124,u 125,u 126,u 127,u 128] [some { row:=Row.rlst [iv X,iv Y,iv S,iv W,iv H,MV.va 2 0 n 15,MV.va 1 0 nc 1],ty:=90 },some { row:=Row.recs [some IntKind.i64] cs,ty:=2 },some { row:=Row.rrecs [some IntKind.i64,some IntKind.i64,some IntKind.i64,some IntKind.i64,some IntKind.i64,some IntKind.i64,some IntKind.i64,some IntKind.i64,some IntKind.i64,some IntKind.i64,some IntKind.i64,some IntKind.i64,some IntKind.i64,some IntKind.i64,some IntKind.i64] it,ty:=39 },some { row:=Row.lst [iv x0,iv y0,iv x1,iv y1],ty:=37 },none,none,none,none,none,none,none,none,none,none,none,none,none,none,none,none,none,none,none,none,none] else none:=by kernel_rfl
set_option maxRecDepth 100000 in
theorem pR3 (u:Nat → MV) (left right top bottom X Y S W H:Int) (n nc:Nat) (cs it:List (List Int)) (bx:Option Blk) (kk:KE):xcode Try.prog E A3 1 (cut c56 [1,1,1,0,0]) (TD u left right top bottom) (Mp X Y S W H (.va 2 0 n 15) nc cs [some ⟨.rrecs (i64s 15) it,39⟩,bx]) kk =
  kk XE.normal [MV.ptr 0 0,u 1,u 2,u 3,u 4,iv left,iv right,iv top,iv bottom,iv top,u 10,u 11,u 12,u 13,u 14,u 15,u 16,u 17,u 18,u 19,u 20,u 21,u 22,u 23,u 24,u 25,u 26,u 27,u 28,u 29,u 30,u 31,u 32,u 33,u 34,u 35,u 36,u 37,u 38,u 39,u 40,u 41,u 42,u 43,u 44,u 45,u 46,u 47,u 48,u 49,u 50,u 51,iv top,u 53,u 54,u 55,u 56,u 57,u 58,u 59,u 60,u 61,u 62,u 63,u 64,u 65,u 66,u 67,u 68,u 69,u 70,u 71,u 72,u 73,u 74,u 75,u 76,u 77,u 78,u 79,u 80,u 81,u 82,u 83,u 84,u 85,u 86,u 87,u 88,u 89,u 90,u 91,u 92,u 93,u 94,u 95,u 96,u 97,u 98,u 99,u 100,u 101,u 102,u 103,u 104,u 105,u 106,u 107,u 108,u 109,u 110,u 111,u 112,u 113,u 114,u 115,u 116,u 117,u 118,u 119,u 120,u 121,u 122,u 123,u 124,u 125,u 126,u 127,u 128] [some { row:=Row.rlst [iv X,iv Y,iv S,iv W,iv H,MV.va 2 0 n 15,MV.va 1 0 nc 1],ty:=90 },some { row:=Row.recs [some IntKind.i64] cs,ty:=2 },some { row:=Row.rrecs [some IntKind.i64,some IntKind.i64,some IntKind.i64,some IntKind.i64,some IntKind.i64,some IntKind.i64,some IntKind.i64,some IntKind.i64,some IntKind.i64,some IntKind.i64,some IntKind.i64,some IntKind.i64,some IntKind.i64,some IntKind.i64,some IntKind.i64] it,ty:=39 },bx]:=by kernel_rfl
set_option maxRecDepth 100000 in
theorem pR14 (u:Nat → MV) (left right top bottom row X Y S W H:Int) (n nc:Nat) (cs it:List (List Int)) (bx:Option Blk) (kk:KE):xcode Try.prog E A3 1 (cut c56 [1,1,1,1]) (TO u left right top bottom row) (Mp X Y S W H (.va 2 0 n 15) nc cs [some ⟨.rrecs (i64s 15) it,39⟩,bx]) kk =
  kk XE.ret [MV.ptr 0 0,u 1,u 2,u 3,iv (IntKind.wrap IntKind.i64 (IntKind.wrap IntKind.i64 (right - left) * IntKind.wrap IntKind.i64 (bottom - top))),iv left,iv right,iv top,iv bottom,iv row,u 10,u 11,u 12,u 13,u 14,u 15,u 16,u 17,u 18,u 19,u 20,u 21,u 22,u 23,u 24,u 25,u 26,u 27,u 28,u 29,u 30,u 31,u 32,u 33,u 34,u 35,u 36,u 37,u 38,u 39,u 40,u 41,u 42,u 43,u 44,u 45,u 46,u 47,u 48,u 49,u 50,u 51,u 52,u 53,u 54,u 55,u 56,u 57,u 58,u 59,u 60,u 61,u 62,u 63,u 64,u 65,u 66,u 67,u 68,u 69,u 70,u 71,u 72,u 73,u 74,u 75,u 76,u 77,u 78,u 79,u 80,u 81,u 82,u 83,u 84,u 85,u 86,u 87,u 88,u 89,u 90,u 91,u 92,u 93,u 94,u 95,u 96,u 97,u 98,u 99,u 100,u 101,u 102,u 103,u 104,u 105,u 106,u 107,u 108,u 109,u 110,u 111,u 112,u 113,u 114,u 115,u 116,u 117,u 118,u 119,u 120,u 121,iv right,iv left,iv (IntKind.wrap IntKind.i64 (right - left)),iv bottom,iv top,iv (IntKind.wrap IntKind.i64 (bottom - top)),iv (IntKind.wrap IntKind.i64 (IntKind.wrap IntKind.i64 (right - left) * IntKind.wrap IntKind.i64 (bottom - top)))] [some { row:=Row.rlst [iv X,iv Y,iv S,iv W,iv H,MV.va 2 0 n 15,MV.va 1 0 nc 1],ty:=90 },some { row:=Row.recs [some IntKind.i64] cs,ty:=2 },some { row:=Row.rrecs [some IntKind.i64,some IntKind.i64,some IntKind.i64,some IntKind.i64,some IntKind.i64,some IntKind.i64,some IntKind.i64,some IntKind.i64,some IntKind.i64,some IntKind.i64,some IntKind.i64,some IntKind.i64,some IntKind.i64,some IntKind.i64,some IntKind.i64] it,ty:=39 },bx]:=by kernel_rfl
section
variable (x0 y0 x1 y1 X Y S W H:Int) (n nc:Nat) (cs it:List (List Int))
def MpI (cs:List (List Int)):Mem:=Mp X Y S W H (.va 2 0 n 15) nc cs [some ⟨.rrecs (i64s 15) it,39⟩]
def MpT (cs:List (List Int)):Mem:=Mp X Y S W H (.va 2 0 n 15) nc cs [some ⟨.rrecs (i64s 15) it,39⟩,some ⟨.lst [iv x0,iv y0,iv x1,iv y1],37⟩]
theorem c56_eq:c56 = .seq (cut c56 [0]) (.seq (cut c56 [1,0]) (.seq (cut c56 [1,1,0]) (.seq (.seq (cut c56 [1,1,1,0,0]) (.block 0 (cut c56 [1,1,1,0,1,0]))) (cut c56 [1,1,1,1])))):=by kernel_rfl
theorem p0:∃ tm',IsTB tm' (.val undef) (.val undef) ∧ ∀ kk:KE,xcode Try.prog E A3 1 (cut c56 [0]) ([.ptr 0 0,.agg [iv x0,iv y0,iv x1,iv y1]] ++ List.replicate 127 (.val undef)) (MpI X Y S W H n nc it cs) kk = kk .normal tm' (MpT x0 y0 x1 y1 X Y S W H n nc it cs):=by
 refine And_swap ?_
 apply Exists.intro
 refine ⟨fun kk => ?_,?_⟩
 ·unfold MpI
  rw [pR0]
  rfl
 ·exact ⟨rfl,rfl,rfl,rfl,rfl⟩
theorem p1 (u:Nat → MV) (l r:MV) (hS:S ≠ 0):∃ tm',IsTB tm' (iv (loI X x0 S W)) (iv (hiI X x0 x1 S W)) ∧ ∀ kk:KE,xcode Try.prog E A3 1 (cut c56 [1,0]) (TB u l r) (MpT x0 y0 x1 y1 X Y S W H n nc it cs) kk = kk .normal tm' (MpT x0 y0 x1 y1 X Y S W H n nc it cs ++ List.replicate 21 none):=by
 have c1:(!decide (S = 0)) = true:=by simp [hS]
 refine And_swap ?_
 apply Exists.intro
 refine ⟨fun kk => ?_,?_⟩
 ·unfold MpT
  rw [pR1]
  simp only [c1,cond_true,Mp]
  rfl
 ·exact ⟨rfl,rfl,rfl,rfl,rfl⟩
theorem p2 (u:Nat → MV) (left right:Int) (hS:S ≠ 0):∃ tm',IsTD tm' left right (loI Y y0 S H) (hiI Y y0 y1 S H) ∧ ∀ kk:KE,xcode Try.prog E A3 1 (cut c56 [1,1,0]) (TB u (iv left) (iv right)) (MpT x0 y0 x1 y1 X Y S W H n nc it cs) kk = kk .normal tm' (MpT x0 y0 x1 y1 X Y S W H n nc it cs ++ List.replicate 21 none):=by
 have c1:(!decide (S = 0)) = true:=by simp [hS]
 refine And_swap ?_
 apply Exists.intro
 refine ⟨fun kk => ?_,?_⟩
 ·unfold MpT
  rw [pR2]
  simp only [c1,cond_true,Mp]
  rfl
 ·exact ⟨rfl,rfl,rfl,rfl,rfl,rfl⟩
theorem p3 (u:Nat → MV) (left right top bottom:Int):∃ tm',IsTO tm' left right top bottom top ∧ ∀ kk:KE,xcode Try.prog E A3 1 (cut c56 [1,1,1,0,0]) (TD u left right top bottom) (MpT x0 y0 x1 y1 X Y S W H n nc it cs) kk = kk .normal tm' (MpT x0 y0 x1 y1 X Y S W H n nc it cs):=by
 refine And_swap ?_
 apply Exists.intro
 refine ⟨fun kk => ?_,?_⟩
 ·unfold MpT
  rw [pR3]
  rfl
 ·exact ⟨rfl,rfl,rfl,rfl,rfl,rfl,rfl⟩
theorem p14 (u:Nat → MV) (left right top bottom row:Int):∃ tm',(∀ m:Mem,xres Try.prog tm' m Try.f56.results.toList = some [iv (w6 (w6 (right - left) * w6 (bottom - top)))]) ∧ ∀ kk:KE,xcode Try.prog E A3 1 (cut c56 [1,1,1,1]) (TO u left right top bottom row) (MpT x0 y0 x1 y1 X Y S W H n nc it cs) kk = kk .ret tm' (MpT x0 y0 x1 y1 X Y S W H n nc it cs):=by
 refine And_swap ?_
 apply Exists.intro
 refine ⟨fun kk => ?_,?_⟩
 ·unfold MpT
  rw [pR14]
  rfl
 ·intro m; rfl
theorem paint_x (hn:it.length = n) (h1:it.length ≤ 1000) (hS:S ≠ 0) (hW:0 ≤ W) (hWn:H * W ≤ nc) (hH:H ≤ 1000000) (hnc:nc ≤ 1000000) (hcs:cs.length = nc)
  (ha:0 ≤ loI X x0 S W) (hb:0 ≤ loI Y y0 S H) :
  XF Try.prog A3.env 56 [.ptr 0 0,.agg [iv x0,iv y0,iv x1,iv y1]] (MpI X Y S W H n nc it cs) (fun v m' =>
   v = iv (w6 (w6 (hiI X x0 x1 S W - loI X x0 S W) * w6 (hiI Y y0 y1 S H - loI Y y0 S H))) ∧
   m' = MpI X Y S W H n nc it (gridP it X Y S W (loI X x0 S W) (hiI X x0 x1 S W) (hiI Y y0 y1 S H - loI Y y0 S H).toNat (loI Y y0 S H) cs)):=by
 have hlr:loI X x0 S W ≤ hiI X x0 x1 S W:=by unfold hiI maxI; unfold loI; split <;> omega
 have htb:loI Y y0 S H ≤ hiI Y y0 y1 S H:=by unfold hiI maxI; unfold loI; split <;> omega
 have hrW:hiI X x0 x1 S W ≤ W:=by unfold hiI maxI minI; split <;> split <;> omega
 have hbH:hiI Y y0 y1 S H ≤ H:=by unfold hiI maxI minI; split <;> split <;> omega
 obtain ⟨left,hleft⟩:∃ x,x = loI X x0 S W:=⟨_,rfl⟩
 obtain ⟨right,hright⟩:∃ x,x = hiI X x0 x1 S W:=⟨_,rfl⟩
 obtain ⟨top,htop⟩:∃ x,x = loI Y y0 S H:=⟨_,rfl⟩
 obtain ⟨bottom,hbottom⟩:∃ x,x = hiI Y y0 y1 S H:=⟨_,rfl⟩
 refine XF.forget (XF.of_code Try.func56 (c:=c56) (by kernel_rfl) ?_)
 refine XR.cast c56_eq ?_
 obtain ⟨tm0,a1,a2⟩:=p0 x0 y0 x1 y1 X Y S W H n nc cs it
 refine XR.seq_x E_ok A3_ok mixed a2 ?_
 obtain ⟨u0,rfl⟩:=a1.eq
 obtain ⟨tm1,b1,b2⟩:=p1 x0 y0 x1 y1 X Y S W H n nc cs it u0 (.val undef) (.val undef) hS
 refine XR.seq_x E_ok A3_ok mixed b2 ?_
 refine XR.trim ?_
 rw [← hleft,← hright] at b1 ⊢
 obtain ⟨u1,rfl⟩:=b1.eq
 obtain ⟨tm2,d1,d2⟩:=p2 x0 y0 x1 y1 X Y S W H n nc cs it u1 left right hS
 refine XR.seq_x E_ok A3_ok mixed d2 ?_
 refine XR.trim ?_
 rw [← htop,← hbottom] at d1 ⊢
 rw [← hleft] at ha hlr
 rw [← hright] at hlr hrW
 rw [← htop] at hb htb
 rw [← hbottom] at htb hbH
 obtain ⟨u2,rfl⟩:=d1.eq
 refine XR.seq ?_
 obtain ⟨tm3,f1,f2⟩:=p3 x0 y0 x1 y1 X Y S W H n nc cs it u2 left right top bottom
 refine XR.seq_x E_ok A3_ok mixed f2 ?_
 refine XR.block ?_
 have hbW:bottom * W ≤ nc:=by
  have:=Int.mul_le_mul_of_nonneg_right hbH hW
  omega
 have hl:=out_loop it (some ⟨.lst [iv x0,iv y0,iv x1,iv y1],37⟩) left right top bottom X Y S W H n nc (cs:=cs) (q:=0) hn h1 hW ha hlr hrW hbW hnc (by omega) f1 hb htb hcs
 simp only [List.replicate_zero,List.append_nil] at hl
 refine XR.mono hl ?_
 rintro e tm4 m4 ⟨rfl,g1,q,rfl⟩
 simp only [if_true]
 refine XR.trim ?_
 obtain ⟨u4,rfl⟩:=g1.eq
 obtain ⟨tm5,k1,k2⟩:=p14 x0 y0 x1 y1 X Y S W H n nc (gridP it X Y S W left right (bottom - top).toNat top cs) it u4 left right top bottom bottom
 refine XR.of_x E_ok A3_ok mixed k2 ?_
 refine ⟨[iv (w6 (w6 (right - left) * w6 (bottom - top)))],?_,MpI X Y S W H n nc it (gridP it X Y S W left right (bottom - top).toNat top cs),[some ⟨.lst [iv x0,iv y0,iv x1,iv y1],37⟩],rfl,Nat.le_refl _,rfl,?_,rfl,rfl⟩
 ·exact k1 _
 ·intro b k hk
  match b,hk with
  | 0,hk =>
   have e:k = ⟨.rlst [iv X,iv Y,iv S,iv W,iv H,.va 2 0 n 15,.va 1 0 nc 1],90⟩:=by injection hk with hk; injection hk with hk; exact hk.symm
   subst e
   show (true && _) = true
   simp [inbL,inb,MpI,Mp,Blk.cells]
  | 1,hk =>
   have e:k = ⟨.recs (i64s 1) (gridP it X Y S W left right (bottom - top).toNat top cs),2⟩:=by injection hk with hk; injection hk with hk; exact hk.symm
   subst e
   exact inb_recs _ _ _
  | 2,hk =>
   have e:k = ⟨.rrecs (i64s 15) it,39⟩:=by injection hk with hk; injection hk with hk; exact hk.symm
   subst e
   exact inb_recs _ _ _
  | b + 3,hk => simp [MpI,Mp] at hk
end
end Go.Proofs.Ytppklhfiajjhmaa.Ti
end
section
namespace Go.Proofs.Ytppklhfiajjhmaa.Ti
open Go Go.RowKit Go.Proofs.Ytppklhfiajjhmaa.Y
set_option linter.unusedVariables false
set_option linter.unusedSimpArgs false
def paintOk (X Y S W H:Int) (n nc:Nat) (cs it:List (List Int)) (x0 y0 x1 y1:Int):Bool :=
 decide (it.length = n ∧ it.length ≤ 1000 ∧ S ≠ 0 ∧ 0 ≤ W ∧ H * W ≤ nc ∧ H ≤ 1000000 ∧ nc ≤ 1000000 ∧ cs.length = nc ∧ 0 < nc ∧ 0 ≤ loI X x0 S W ∧ 0 ≤ loI Y y0 S H)
def paintC (X Y S W H:Int) (it:List (List Int)) (x0 y0 x1 y1:Int) (cs:List (List Int)):List (List Int) :=
 gridP it X Y S W (loI X x0 S W) (hiI X x0 x1 S W) (hiI Y y0 y1 S H - loI Y y0 S H).toNat (loI Y y0 S H) cs
def paintN (X Y S W H:Int) (x0 y0 x1 y1:Int):Int:=w6 (w6 (hiI X x0 x1 S W - loI X x0 S W) * w6 (hiI Y y0 y1 S H - loI Y y0 S H))
theorem paintC_len (X Y S W H:Int) (it:List (List Int)) (x0 y0 x1 y1:Int) (cs:List (List Int)):(paintC X Y S W H it x0 y0 x1 y1 cs).length = cs.length:=gridP_len _ _ _ _ _ _ _ _ _ _
def paintG:List MV → Mem → KM → Option Out:=fun args m k => match args with
 | [.ptr b 0,.agg [.val (.int .i64 x0),.val (.int .i64 y0),.val (.int .i64 x1),.val (.int .i64 y1)]] => match m[b]? with
  | some (some ⟨.lst [.val (.int .i64 X),.val (.int .i64 Y),.val (.int .i64 S),.val (.int .i64 W),.val (.int .i64 H),.va d 0 n 15,.va c 0 nc 1],90⟩) => match m[d]? with
   | some (some ⟨.recs sh it,39⟩) => match m[c]? with
    | some (some ⟨.recs sh1 cs,2⟩) => bif decide (sh = i64s 15) && decide (sh1 = i64s 1) && decide (b ≠ c) && decide (b ≠ d) && decide (c ≠ d) then
      bif paintOk X Y S W H n nc cs it x0 y0 x1 y1 then k (iv (paintN X Y S W H x0 y0 x1 y1)) (m.set c (some ⟨.recs (i64s 1) (paintC X Y S W H it x0 y0 x1 y1 cs),2⟩)) else none
     else none
    | _ => none
   | _ => none
  | _ => none
 | _ => none
theorem wk_recs (sh:List (Option IntKind)) (l:List (List Int)):(l.flatMap (recC sh 0)).map wk = l.flatMap (recC sh 0):=by
 have h1:∀ (sh:List (Option IntKind)) (c:Nat) (r:List Int),(recC sh c r).map wk = recC sh c r:=by
  intro sh
  induction sh with
  | nil => intro c r; rfl
  | cons a sh ih => intro c r; cases a <;> simp [recC,ih,wk]
 induction l with
 | nil => rfl
 | cons r l ih => simp only [List.flatMap_cons,List.map_append,h1,ih]
theorem recs_len (sh:List (Option IntKind)) (l:List (List Int)):(l.flatMap (recC sh 0)).length = l.length * sh.length:=by
 induction l with
 | nil => simp
 | cons r l ih => simp [List.flatMap_cons,recC_len,ih,Nat.add_mul]; omega
theorem paintG_ok:IOk Try.prog A3.env 56 paintG:=by
 intro args m k r hG base w0 σ us w hX hu hM
 unfold paintG at hG
 split at hG
 case h_2 => cases hG
 rename_i b x0 y0 x1 y1
 split at hG
 case h_2 => cases hG
 rename_i X Y S W H d n c nc hb
 split at hG
 case h_2 => cases hG
 rename_i sh it hd
 split at hG
 case h_2 => cases hG
 rename_i sh1 cs hc
 cases h1:(decide (sh = i64s 15) && decide (sh1 = i64s 1) && decide (b ≠ c) && decide (b ≠ d) && decide (c ≠ d)) with
 | false => rw [h1] at hG; cases hG
 | true =>
 rw [h1] at hG
 cases h2:paintOk X Y S W H n nc cs it x0 y0 x1 y1 with
 | false => rw [h2] at hG; cases hG
 | true =>
 rw [h2] at hG
 simp only [cond_true] at hG
 simp only [Bool.and_eq_true,decide_eq_true_eq] at h1
 obtain ⟨⟨⟨⟨rfl,rfl⟩,hbc⟩,hbd⟩,hcd⟩:=h1
 unfold paintOk at h2
 simp only [decide_eq_true_eq] at h2
 obtain ⟨q1,q2,q3,q4,q5,q6,q7,q8,q9,q10,q11⟩:=h2
 have hx:=paint_x x0 y0 x1 y1 X Y S W H n nc cs it q1 q2 q3 q4 q5 q6 q7 q8 q10 q11
 have hl:=paintC_len X Y S W H it x0 y0 x1 y1 cs
 have hu':=hu
 simp only [RVs] at hu'
 obtain ⟨u0,r0,rfl,hp,u1,r1,rfl,hr,rfl⟩:=hu'
 obtain ⟨g,hg,rfl⟩:=hp.ptr_inv
 obtain ⟨pre,cells,rest,b1,b2,b3,b4,b5⟩:=hM.blk b _ g hb hg
 have hcells:∀ (i:Nat) x,[MV.val (.int .i64 X),.val (.int .i64 Y),.val (.int .i64 S),.val (.int .i64 W),.val (.int .i64 H),.va d 0 n 15,.va c 0 nc 1][i]? = some x → ∃ u,RV σ x u:=by
  intro i x hi
  obtain ⟨u,_,hu⟩:=RVs.get i b2 hi
  exact ⟨u,hu⟩
 have hdm:0 < n → ∃ g,σ d = some g:=by
  intro hn
  obtain ⟨u,h⟩:=hcells 5 _ rfl
  simp only [RV] at h
  obtain ⟨A,cc,_,_,h3⟩:=h
  obtain ⟨g,h4,_⟩:=h3 hn
  exact ⟨g,h4⟩
 have hcm:∃ g,σ c = some g:=by
  obtain ⟨u,h⟩:=hcells 6 _ rfl
  simp only [RV] at h
  obtain ⟨A,cc,_,_,h3⟩:=h
  obtain ⟨g,h4,_⟩:=h3 q9
  exact ⟨g,h4⟩
 have hz:XFz Try.prog A3.env (fun i => i == 2 && n == 0) 56 [.ptr 0 0,.agg [iv x0,iv y0,iv x1,iv y1]] (MpI X Y S W H n nc it cs) (iv (paintN X Y S W H x0 y0 x1 y1)) (MpI X Y S W H n nc it (paintC X Y S W H it x0 y0 x1 y1 cs)):=by
  refine XF.z hx rfl ?_
  intro i k hk
  match i,hk with
  | 0,hk =>
   have e:k = ⟨.rlst [iv X,iv Y,iv S,iv W,iv H,.va 2 0 n 15,.va 1 0 nc 1],90⟩:=by injection hk with hk; injection hk with hk; exact hk.symm
   subst e
   show (true && _) = true
   simp [inbL,inb]
  | 1,hk =>
   have e:k = ⟨.recs (i64s 1) (paintC X Y S W H it x0 y0 x1 y1 cs),2⟩:=by injection hk with hk; injection hk with hk; exact hk.symm
   subst e
   exact inb_recs _ _ _
  | 2,hk =>
   have e:k = ⟨.rrecs (i64s 15) it,39⟩:=by injection hk with hk; injection hk with hk; exact hk.symm
   subst e
   exact inb_recs _ _ _
  | i + 3,hk => simp [MpI,Mp] at hk
 have hfr:=frameZ (rs:=[b,c,d]) true_stable hz (base:=base) (w0:=w0) (σ:=σ) (w:=w) (m:=m) (args:=[.ptr b 0,.agg [iv x0,iv y0,iv x1,iv y1]]) (by simp [hbc,hbd,hcd]) ?_ (fun h => h) ?_ ?_ ?_ hX hu hM ?_
 ·refine Calls.mono hfr ?_
  rintro e w' ⟨v,m',σ',u,⟨rfl,rfl⟩,h3,h4,h5,h6⟩
  refine ⟨_,_,σ',u,?_,h3,h4,h5,h6⟩
  rw [← hG]
  simp only [frameM,MpI,Mp,upd,Blk.ro,cond_true,cond_false,List.cons_append,List.nil_append,List.length_cons,List.length_nil,List.drop_succ_cons,List.drop_zero,List.map_nil,List.append_nil,renB,ren,iv,List.drop]
 ·intro i k0 hk
  match i,hk with
  | 0,_ => simp
  | 1,_ => simp
  | 2,_ => simp
  | i + 3,hk => simp [MpI,Mp] at hk
 ·intro i b' hb'
  match i,hb' with
  | 0,hb' =>
   simp only [List.getElem?_cons_zero,Option.some.injEq] at hb'
   subst hb'
   exact ⟨_,_,hb,rfl,rfl,rfl,fun h => by cases h⟩
  | 1,hb' =>
   have e:c = b':=by simpa using hb'
   subst e
   refine ⟨_,_,hc,rfl,rfl,?_,fun _ => ⟨rfl,?_⟩⟩
   ·show (cs.flatMap (recC (i64s 1) 0)).map wk = renL _ (cs.flatMap (recC (i64s 1) 0))
    rw [wk_recs,renL_recs]
   ·show cs.flatMap (recC (i64s 1) 0) ≠ []
    intro e
    have:=recs_len (i64s 1) cs
    rw [e] at this
    simp [i64s] at this
    omega
  | 2,hb' =>
   have e:d = b':=by simpa using hb'
   subst e
   refine ⟨_,_,hd,rfl,rfl,?_,fun h => by cases h⟩
   show (it.flatMap (recC (i64s 15) 0)).map wk = renL _ (it.flatMap (recC (i64s 15) 0))
   rw [wk_recs,renL_recs]
  | i + 3,hb' => simp at hb'
 ·intro i k0 hk
  match i,hk with
  | 0,hk => exact ⟨k0,hk,rfl,rfl,rfl⟩
  | 1,hk =>
   have e:k0 = ⟨.recs (i64s 1) cs,2⟩:=by injection hk with hk; injection hk with hk; exact hk.symm
   subst e
   refine ⟨_,rfl,rfl,rfl,?_⟩
   show ((paintC X Y S W H it x0 y0 x1 y1 cs).flatMap (recC (i64s 1) 0)).length = (cs.flatMap (recC (i64s 1) 0)).length
   rw [recs_len,recs_len,hl]
  | 2,hk => exact ⟨k0,hk,rfl,rfl,rfl⟩
  | i + 3,hk => simp [MpI,Mp] at hk
 ·intro i k1 hi hk
  match i,hi,hk with
  | i + 3,_,hk => simp [MpI,Mp] at hk
 ·intro i b' hb'
  match i,hb' with
  | 0,hb' =>
   have e:b = b':=by simpa using hb'
   subst e
   exact .inr ⟨g,hg⟩
  | 1,hb' =>
   have e:c = b':=by simpa using hb'
   subst e
   exact .inr hcm
  | 2,hb' =>
   have e:d = b':=by simpa using hb'
   subst e
   rcases Nat.eq_zero_or_pos n with h | h
   ·exact .inl (by rw [h]; rfl)
   ·exact .inr (hdm h)
  | i + 3,hb' => simp at hb'
end Go.Proofs.Ytppklhfiajjhmaa.Ti
end
section
namespace Go.Proofs.Ytppklhfiajjhmaa.Ti
open Go Go.RowKit Go.Proofs.Ytppklhfiajjhmaa.Y Go.Proofs.Ytppklhfiajjhmaa.PPT Go.Lib
set_option linter.unusedVariables false
set_option linter.unusedSimpArgs false
set_option maxRecDepth 100000 in
theorem allNf (X Y S W H:Int) (c0:KM):xfun Try.prog E A3 3 54 [.ptr 0 0] [some ⟨.rlst [iv X,iv Y,iv S,iv W,iv H,.any,.any],90⟩] c0 =
  c0 (MV.agg [iv X,iv Y,iv (IntKind.wrap IntKind.i64 (X + IntKind.wrap IntKind.i64 (W * S))),iv (IntKind.wrap IntKind.i64 (Y + IntKind.wrap IntKind.i64 (H * S)))]) [some { row:=Row.rlst [iv X,iv Y,iv S,iv W,iv H,MV.any,MV.any],ty:=90 },some { row:=Row.lst [iv X,iv Y,iv (IntKind.wrap IntKind.i64 (X + IntKind.wrap IntKind.i64 (W * S))),iv (IntKind.wrap IntKind.i64 (Y + IntKind.wrap IntKind.i64 (H * S)))],ty:=37 },none,none,none,none,none,none,none,none,none,none,none,none,none,none,none,none,none,none,none,none,none,none,none,none,none,none,none,none,none,none,none,none,none,none,none,none,none,none,none,none,none,none,none,none,none,none]:=by kernel_rfl
def allF:List MV → Nat → Nat → List MV → Option MV:=fun cells ty o ps => match cells,ty,o,ps with
 | [.val (.int .i64 X),.val (.int .i64 Y),.val (.int .i64 S),.val (.int .i64 W),.val (.int .i64 H),.any,.any],90,0,[] =>
  some (.agg [iv X,iv Y,iv (w6 (X + w6 (W * S))),iv (w6 (Y + w6 (H * S)))])
 | _,_,_,_ => none
theorem allF_ok:QOk Try.prog A3.env 54 (toR1 allF):=by
 refine Q_one true_stable (fun cells ty o ps v h => ?_)
 unfold allF at h
 split at h
 ·rename_i X Y S W H
  simp only [Option.some.injEq] at h
  subst h
  refine ⟨⟨_,rfl⟩,⟨_,rfl⟩,?_⟩
  apply XF.of_x E_ok A3_ok mixed (n:=3)
  ·intro k
   rw [allNf]
  ·rfl
 ·cases h
def allG:List MV → (Nat → Option Blk) → KV → Option Out:=fun args rd k => match args with
 | [.ptr b 0] => match rd b with
  | some kb => match kb.cells,kb.ty with
   | [.val (.int .i64 X),.val (.int .i64 Y),.val (.int .i64 S),.val (.int .i64 W),.val (.int .i64 H),.va b1 i1 n1 s1,.va b2 i2 n2 s2],90 =>
    k (.agg [iv X,iv Y,iv (w6 (X + w6 (W * S))),iv (w6 (Y + w6 (H * S)))])
   | _,_ => none
  | none => none
 | _ => none
theorem allG_ok:QOk Try.prog A3.env 54 allG:=by
 intro args rd k r hG
 refine allF_ok args rd k r ?_
 unfold allG at hG
 split at hG
 ·rename_i b
  split at hG
  ·rename_i kb hb
   split at hG
   ·rename_i X Y S W H b1 i1 n1 s1 b2 i2 n2 s2 hc ht
    simp only [toR1,hb,hc,ht,allF,List.map_cons,List.map_nil,hide]
    exact hG
   ·cases hG
  ·cases hG
 ·cases hG
def rI (l:List Int):S37:=⟨l.getD 0 0,l.getD 1 0,l.getD 2 0,l.getD 3 0⟩
def meetL (a0 a1 a2 a3 b0 b1 b2 b3:Int):S37:=Pure.meet ⟨a0,a1,a2,a3⟩ ⟨b0,b1,b2,b3⟩
def meetP:List MV → Option MV
 | [.agg [.val (.int .i64 a0),.val (.int .i64 a1),.val (.int .i64 a2),.val (.int .i64 a3)],.agg [.val (.int .i64 b0),.val (.int .i64 b1),.val (.int .i64 b2),.val (.int .i64 b3)]] =>
  some (.agg [iv (meetL a0 a1 a2 a3 b0 b1 b2 b3).f0,iv (meetL a0 a1 a2 a3 b0 b1 b2 b3).f1,iv (meetL a0 a1 a2 a3 b0 b1 b2 b3).f2,iv (meetL a0 a1 a2 a3 b0 b1 b2 b3).f3])
 | _ => none
theorem meetP_ok {X:Env}:QOk Try.prog X 53 (toQ meetP):=by
 refine Q_of (fun args v h => ?_)
 unfold meetP at h
 split at h
 ·rename_i a0 a1 a2 a3 b0 b1 b2 b3
  injection h with h; subst h
  exact ⟨_,_,rfl,rfl,fun w => rect_Meet.calls _ _ _ _ _ _ _ _ _ _ _ _ w (Pure.meet_eq ⟨a0,a1,a2,a3⟩ ⟨b0,b1,b2,b3⟩)⟩
 ·cases h
def empL (a0 a1 a2 a3:Int):Bool:=decide (Pure.emp ⟨a0,a1,a2,a3⟩)
def emptyP:List MV → Option MV
 | [.agg [.val (.int .i64 a0),.val (.int .i64 a1),.val (.int .i64 a2),.val (.int .i64 a3)]] => some (.val (.bool (empL a0 a1 a2 a3)))
 | _ => none
theorem emptyP_ok {X:Env}:QOk Try.prog X 55 (toQ emptyP):=by
 refine Q_of (fun args v h => ?_)
 unfold emptyP at h
 split at h
 ·rename_i a0 a1 a2 a3
  injection h with h; subst h
  exact ⟨_,_,rfl,rfl,fun w => rect_Empty.calls _ _ _ _ _ w (Pure.empty_eq ⟨a0,a1,a2,a3⟩)⟩
 ·cases h
def harmL (l m:List (List Int)):List (List Int):=(Pure.harm (l.map dec39) (m.map dec39)).map enc37
def harmP:List MV → (Nat → Option Blk) → (Blk → (Nat → MV) → Option Out) → Option Out:=fun args rd k => match args with
 | [a,b] => match rowsC T0 (i64s 15) rd a with
  | (c,some l) => match rowsC T0 (i64s 15) rd b with
   | (d,some m) => bif c then bif d then bif decide (l.length + m.length ≤ 90) then k ⟨.recs (i64s 4) (harmL l m),37⟩ (fun b => .va b 0 (harmL l m).length 4) else none else none else none
   | (_,none) => none
  | (_,none) => none
 | _ => none
theorem harmP_ok {X:Env}:NOk Try.prog X 18 harmP:=by
 intro args rd k r hG
 unfold harmP at hG
 split at hG
 case h_2 => cases hG
 rename_i a b
 split at hG
 case h_2 => cases hG
 rename_i c l hl0
 split at hG
 case h_2 => cases hG
 rename_i d m hm0
 cases c with
 | false => simp at hG
 | true =>
 cases d with
 | false => simp at hG
 | true =>
 simp only [cond_true] at hG
 cases hd:decide (l.length + m.length ≤ 90) with
 | false => rw [hd] at hG; simp at hG
 | true =>
 rw [hd] at hG
 simp only [cond_true] at hG
 simp only [decide_eq_true_eq] at hd
 have hl:=rowsC_ok hl0
 have hm:=rowsC_ok hm0
 refine ⟨_,_,hG,rfl,fun base w0 σ us w hX hb hn hu hr => ?_⟩
 simp only [RVs] at hu
 obtain ⟨u0,r0,rfl,h0,u1,r1,rfl,h1,rfl⟩:=hu
 obtain ⟨A,cc,rfl,hc,hC⟩:=items_C (rowsOf_ok hl (T0_out _ base w0 σ.x) hb h0 (fun b k hb' hk => hr b k (reach_l (by simp [refsL,hb'])) hk)) (by omega)
 obtain ⟨A1,c1,rfl,hc1,hC1⟩:=items_C (rowsOf_ok hm (T0_out _ base w0 σ.x) hb h1 (fun b k hb' hk => hr b k (reach_l (by simp [refsL,hb'])) hk)) (by omega)
 obtain ⟨K,hK⟩:=Pure.harm_eq (l.map dec39) (m.map dec39) (by rw [List.length_map,List.length_map]; omega)
 refine Calls.mono (harm_Of.calls K A cc (l.map dec39) A1 c1 (m.map dec39) _ w hC hc hC1 hc1 (hK K (Nat.le_refl K))) ?_
 rintro e w' ⟨v,rfl,hR,hB⟩
 have e:(harmL l m).length = (Pure.harm (l.map dec39) (m.map dec39)).length:=by simp [harmL]
 have ho:=rects_own (w:=w) hR
 rw [← e] at ho
 exact ⟨_,rfl,fresh_own ho rfl rfl,hB⟩
def cloneR (ty sz:Nat):List MV → (Nat → Option Blk) → (Blk → (Nat → MV) → Option Out) → Option Out:=fun args rd k => match args with
 | [a] => match rowsC T0 (i64s sz) rd a with
  | (c,some l) => bif c then bif decide (l.length ≤ 1000000) then k ⟨.recs (i64s sz) l,ty⟩ (fun b => .va b 0 l.length sz) else none else none
  | (_,none) => none
 | _ => none
theorem cloneR_ok {X:Env} {f ty sz:Nat} (hsz:0 < sz)
  (h1:∀ (b off n c:Nat) (news:List Value) (w:World),news.length = n * sz → n ≤ 1000000 → (∀ j u,news[j]? = some u → w.cell? ⟨b,off + j,none⟩ = some u) → (∀ u ∈ news,u.oneCell' = true) →
   Calls Try.prog f #[.slice (some ⟨b,off,none⟩) n c] w fun e w' => ∃ v',e = .returned v' ∧ w'.ownsRow w.heap.size ty sz v' n news ∧ Below w.heap.size w w')
  (h0:∀ (a:Addr) (c:Nat) (w:World),Calls Try.prog f #[.slice (some a) 0 c] w fun e w' => ∃ v',e = .returned v' ∧ w'.ownsRow w.heap.size ty sz v' 0 [] ∧ Below w.heap.size w w')
  (hnil:∀ (n c:Nat) (w:World),Calls Try.prog f #[.slice none n c] w fun e w' => e = .returned (.slice none 0 0) ∧ w' = w):NOk Try.prog X f (cloneR ty sz):=by
 intro args rd k r hG
 unfold cloneR at hG
 split at hG
 case h_2 => cases hG
 rename_i a
 split at hG
 case h_2 => cases hG
 rename_i c l hl0
 cases c with
 | false => simp at hG
 | true =>
 simp only [cond_true] at hG
 cases hd:decide (l.length ≤ 1000000) with
 | false => rw [hd] at hG; simp at hG
 | true =>
 rw [hd] at hG
 simp only [cond_true] at hG
 simp only [decide_eq_true_eq] at hd
 have hl:=rowsC_ok hl0
 refine ⟨_,_,hG,rfl,fun base w0 σ us w hX hb hn hu hr => ?_⟩
 simp only [RVs] at hu
 obtain ⟨u0,r0,rfl,hh,rfl⟩:=hu
 obtain ⟨A,cc,rfl,hc,hC⟩:=rowsOf_ok hl (T0_out _ base w0 σ.x) hb hh (fun b k hb' hk => hr b k (reach_l (by simp [refsL,hb'])) hk)
 have hlen:=rowsV_len (i64s sz) l
 have hs:(i64s sz).length = sz:=by simp [i64s]
 rw [hs] at hlen
 rcases Nat.eq_zero_or_pos l.length with hz | hz
 ·have hl':l = []:=List.length_eq_zero_iff.1 hz
  subst hl'
  cases A with
  | none =>
   refine Calls.mono (hnil 0 cc w) ?_
   rintro e w' ⟨rfl,rfl⟩
   refine ⟨_,rfl,.inr (fun τ b hx => ?_),Below.refl _ _⟩
   simp only [RV]
   exact ⟨none,0,rfl,Nat.le_refl _,fun h => absurd h (by simp)⟩
  | some a =>
   refine Calls.mono (h0 a cc w) ?_
   rintro e w' ⟨v,rfl,ho,hB⟩
   exact ⟨v,rfl,fresh_own ho rfl hs.symm,hB⟩
 ·obtain ⟨ad,rfl,⟨_,hsp⟩,hcell⟩:=hC hz
  obtain ⟨b,off,spot⟩:=ad
  simp only at hsp
  subst hsp
  refine Calls.mono (h1 b off l.length cc (rowsV (i64s sz) l) w hlen hd ?_ (rowsV_one _ _)) ?_
  ·intro j u hj
   have hlt:=(List.getElem?_eq_some_iff.1 hj).1
   rw [hlen] at hlt
   have hq:j / sz < l.length:=(Nat.div_lt_iff_lt_mul hsz).2 hlt
   have hrl:j % sz < (recV (i64s sz) 0 (l.getD (j / sz) [])).length:=by rw [recV_len,hs]; exact Nat.mod_lt _ hsz
   have h1:=hcell (j / sz) hq (j % sz) _ (List.getElem?_eq_getElem hrl)
   have h2:=rowsV_get hq (List.getElem?_eq_getElem hrl)
   rw [hs] at h1 h2
   have ej:j / sz * sz + j % sz = j:=Nat.div_add_mod' j sz
   rw [ej] at h1 h2
   rw [addr_add] at h1
   rw [hj] at h2
   simp only [Option.some.injEq] at h2
   rw [h1,h2]
  ·rintro e w' ⟨v,rfl,ho,hB⟩
   exact ⟨v,rfl,fresh_own ho rfl hs.symm,hB⟩
end Go.Proofs.Ytppklhfiajjhmaa.Ti
end
section
namespace Go.Proofs.Ytppklhfiajjhmaa.Ti
open Go Go.RowKit Go.Proofs.Ytppklhfiajjhmaa.Y Go.Proofs.Ytppklhfiajjhmaa.PPT Go.Lib Go.Shelf
set_option linter.unusedVariables false
set_option linter.unusedSimpArgs false
set_option maxHeartbeats 2000000 in
set_option maxRecDepth 100000 in
theorem clone_zero {P:Program} {ρ:Ren} (L:SlLaysE0.n41 P ρ) (i0:TypeInfo) (z:Value) (size bytes:Nat) (hi:P.info? (ρ.t 23) = some i0) (hz0:i0.zero = some z) (hz1:i0.size = size) (hz2:i0.bytes = bytes) (hzs:z.cells.size = size) (hsz:0 < size)
  (z23:∀ w,(Go.sizeOf (ρ.t 23)).run P w = .ok size w) (a:Addr) (c:Nat) (w:World) :
  Calls P (ρ.f 41) #[.slice (some a) 0 c] w fun e w' => ∃ v',e = .returned v' ∧ w'.ownsRow w.heap.size (ρ.t 23) size v' 0 [] ∧ Below w.heap.size w w':=by
 have mixed:=L.mixed; have t4:=L.t4; have a4:=L.a4; have z4:=L.z4; have v4:=L.v4; have t22:=L.t22; have a22:=L.a22; have z22:=L.z22; have v22:=L.v22
 have q22:∀ (w:World) (a:Option Addr) (n c n' c':Nat),(binOp .eql (ρ.t 22) (.slice a n c) (.slice none n' c')).run P w = .ok (.bool a.isNone) w:=fun w a n c n' c' => Lib.run_eql_slice_nil w _ _ a n c n' c' L.t22
 have u22:∀ w,Sem.run P (underlying (ρ.t 22)) w = .ok (TypeDesc.slice (ρ.t 23)) w:=run_underlying t22
 obtain ⟨_,_,FG⟩:=L.f41
 go_enter FG,SlBodyN.n41_ntmps ρ
 go_wp2_with (at_builtin; refine wpList_append_own _ rfl _ _ (ρ.t 22) rfl w.heap.size (ρ.t 23) i0 z size bytes t22 hi hz0 hz1 hz2 hzs hsz _ _ _ rfl (World.ownsRow_made w #[] 0 (Nat.le_refl _) (Nat.zero_le _) (by simp)) a 0 c [] rfl (by simp) (by intro j u hj; simp at hj) (by intro u hu; cases hu) (by unfold maxLen; omega) (by omega) (by simp) ?_)
 intro v' w1 hown hgrow hnil
 go_wp2
 go_ret
 exact ⟨v',rfl,by simpa using hown,((Below.refl _ w).alloc (Nat.le_refl _) _).grown hgrow (by simp) (by intro k hk; simp [Value.ownBlock] at hk; omega)⟩
theorem lays57:Go.Proofs.SlLaysE0.n41 Try.prog ⟨fun | 41 => 57 | n => n,fun | 22 => 47 | 23 => 2 | 4 => 4 | n => n,fun | n => n⟩:={
 mixed:=by kernel_rfl
 f41:=⟨Try.f57.name,by decide,Try.func57.trans (congrArg some (by kernel_rfl))⟩
 t4:=Try.underlying4
 a4:=Try.isAgg4
 z4:=Try.sizeOf4
 v4:=Try.zeroValue4
 t22:=Try.underlying47
 a22:=Try.isAgg47
 z22:=Try.sizeOf47
 v22:=Try.zeroValue47 }
theorem info2:∃ i z,Try.prog.info? 2 = some i ∧ i.zero = some z ∧ i.size = 1 ∧ i.bytes = 8 ∧ z.cells.size = 1:=by
 have h1:(Try.prog.info? 2).map (fun i => (i.size,i.bytes)) = some (1,8):=by kernel_rfl
 have h2:zeroCells Try.prog 2 = some (List.replicate 1 (.int .i64 0)):=by kernel_rfl
 obtain ⟨i,hi,he⟩:=Option.map_eq_some_iff.1 h1
 simp only [Prod.mk.injEq] at he
 unfold zeroCells at h2
 rw [hi] at h2
 simp only [Option.bind_some] at h2
 obtain ⟨z,hz,hz2⟩:=Option.map_eq_some_iff.1 h2
 refine ⟨i,z,hi,hz,he.1,he.2,?_⟩
 have:=congrArg List.length hz2
 simpa using this
theorem clone52_ok {X:Env}:NOk Try.prog X 52 (cloneR 39 15):=by
 obtain ⟨i,z,hi,hz,hs,hby,hzs⟩:=info39
 refine cloneR_ok (by omega) (fun b off n c news w hl hn hc h1 => ?_) (fun a c w => ?_) (fun n c w => AnyE.slices_Clone_nil lays52 n c w)
 ·refine Calls.mono (AnyE.slices_Clone lays52 i z 15 120 hi hz hs hby hzs (by omega) (fun w => run_size (by kernel_rfl) w) b off n c news w hl (by simp [maxLen]; omega) (by omega) hc h1) ?_
  rintro e w' ⟨v,rfl,ho,_,hB⟩
  exact ⟨v,rfl,ho,hB⟩
 ·exact clone_zero lays52 i z 15 120 hi hz hs hby hzs (by omega) (fun w => run_size (by kernel_rfl) w) a c w
theorem clone57_ok {X:Env}:NOk Try.prog X 57 (cloneR 2 1):=by
 obtain ⟨i,z,hi,hz,hs,hby,hzs⟩:=info2
 refine cloneR_ok (by omega) (fun b off n c news w hl hn hc h1 => ?_) (fun a c w => ?_) (fun n c w => AnyE.slices_Clone_nil lays57 n c w)
 ·refine Calls.mono (AnyE.slices_Clone lays57 i z 1 8 hi hz hs hby hzs (by omega) (fun w => run_size (by kernel_rfl) w) b off n c news w hl (by simp [maxLen]; omega) (by omega) hc h1) ?_
  rintro e w' ⟨v,rfl,ho,_,hB⟩
  exact ⟨v,rfl,ho,hB⟩
 ·exact clone_zero lays57 i z 1 8 hi hz hs hby hzs (by omega) (fun w => run_size (by kernel_rfl) w) a c w
noncomputable def A4:Ctx:=addI A3 56 paintG
noncomputable def A5:Ctx:=addR A4 54 allG
noncomputable def A6:Ctx:=addQ A5 53 meetP
noncomputable def A7:Ctx:=addQ A6 55 emptyP
noncomputable def A8:Ctx:=addN A7 18 harmP
noncomputable def A9:Ctx:=addN A8 52 (cloneR 39 15)
theorem A4_ok:COk Try.prog A4:=addI_ok A3_ok paintG_ok (fnOk_of Try.func56 (by kernel_rfl) (by kernel_rfl))
theorem A5_ok:COk Try.prog A5:=addR_ok A4_ok allG_ok (fnOk_of Try.func54 (by kernel_rfl) (by kernel_rfl))
theorem A6_ok:COk Try.prog A6:=addQ_ok A5_ok meetP_ok (fnOk_of Try.func53 (by kernel_rfl) (by kernel_rfl))
theorem A7_ok:COk Try.prog A7:=addQ_ok A6_ok emptyP_ok (fnOk_of Try.func55 (by kernel_rfl) (by kernel_rfl))
theorem A8_ok:COk Try.prog A8:=addN_ok A7_ok harmP_ok (fnOk_of Try.func18 (by kernel_rfl) (by kernel_rfl))
theorem A9_ok:COk Try.prog A9:=addN_ok A8_ok clone52_ok (fnOk_of Try.func52 (by kernel_rfl) (by kernel_rfl))
noncomputable def c36:Code:=bodyOf Try.f36
end Go.Proofs.Ytppklhfiajjhmaa.Ti
end
section
namespace Go.Proofs.Ytppklhfiajjhmaa.Ti
open Go Go.RowKit Go.Proofs.Ytppklhfiajjhmaa.Y
set_option linter.unusedVariables false
set_option linter.unusedSimpArgs false
def Bd (X Y S W H:Int) (d n nc:Nat):Blk:=⟨.lst [iv X,iv Y,iv S,iv W,iv H,.va d 0 n 15,.va 1 0 nc 1],90⟩
def MS (X Y S W H:Int) (d n nc:Nat) (cs:List (List Int)) (r:List (Option Blk)):Mem:=[some ⟨.lst [iv X,iv Y,iv S,iv W,iv H,.va d 0 n 15,.va 1 0 nc 1],90⟩,some ⟨.recs (i64s 1) cs,2⟩] ++ r
def SH (u:Nat → MV) (n1:Nat) (a6:MV):List MV :=
 [.ptr 0 0,.va 3 0 n1 15,u 2,u 3,u 4,u 5,a6] ++ (List.range 37).map (fun i => u (i + 7))
def SL (u:Nat → MV) (t7:Int) (len:Nat) (i:Int):List MV :=
 [.ptr 0 0,u 1,u 2,u 3,u 4,u 5,u 6,iv t7,u 8,u 9,u 10,u 11,u 12,u 13,u 14,u 15,u 16,u 17,u 18,u 19,u 20,u 21,u 22,u 23,.va 4 0 len 4,iv len,iv i] ++ (List.range 17).map (fun i => u (i + 27))
set_option maxRecDepth 100000 in
theorem s0 (n1:Nat) (m:Mem) (kk:KE):xcode Try.prog E A9 1 (cut c36 [0]) ([.ptr 0 0,.va 3 0 n1 15] ++ List.replicate 42 (.val undef)) m kk =
  kk XE.normal [MV.ptr 0 0,MV.va 3 0 n1 15,MV.val (Value.tuple { toList:=[] }),MV.val (Value.tuple { toList:=[] }),iv 0,iv 0,MV.val (Value.tuple { toList:=[] }),MV.val (Value.tuple { toList:=[] }),MV.val (Value.tuple { toList:=[] }),MV.val (Value.tuple { toList:=[] }),MV.val (Value.tuple { toList:=[] }),MV.val (Value.tuple { toList:=[] }),MV.val (Value.tuple { toList:=[] }),MV.val (Value.tuple { toList:=[] }),MV.val (Value.tuple { toList:=[] }),MV.val (Value.tuple { toList:=[] }),MV.val (Value.tuple { toList:=[] }),MV.val (Value.tuple { toList:=[] }),MV.val (Value.tuple { toList:=[] }),MV.val (Value.tuple { toList:=[] }),MV.val (Value.tuple { toList:=[] }),MV.val (Value.tuple { toList:=[] }),MV.val (Value.tuple { toList:=[] }),MV.val (Value.tuple { toList:=[] }),MV.val (Value.tuple { toList:=[] }),MV.val (Value.tuple { toList:=[] }),MV.val (Value.tuple { toList:=[] }),MV.val (Value.tuple { toList:=[] }),MV.val (Value.tuple { toList:=[] }),MV.val (Value.tuple { toList:=[] }),MV.val (Value.tuple { toList:=[] }),MV.val (Value.tuple { toList:=[] }),MV.val (Value.tuple { toList:=[] }),MV.val (Value.tuple { toList:=[] }),MV.val (Value.tuple { toList:=[] }),MV.val (Value.tuple { toList:=[] }),MV.val (Value.tuple { toList:=[] }),MV.val (Value.tuple { toList:=[] }),MV.val (Value.tuple { toList:=[] }),MV.val (Value.tuple { toList:=[] }),MV.val (Value.tuple { toList:=[] }),MV.val (Value.tuple { toList:=[] }),MV.val (Value.tuple { toList:=[] }),MV.val (Value.tuple { toList:=[] })] m:=by kernel_rfl
set_option maxRecDepth 100000 in
theorem s1 (u:Nat → MV) (n1:Nat) (a6:MV) (m:Mem) (kk:KE):xcode Try.prog E A9 1 (cut c36 [1,0]) (SH u n1 a6) m kk =
  kk XE.normal [MV.ptr 0 0,MV.va 3 0 n1 15,u 2,u 3,u 4,u 5,a6,u 7,u 8,u 9,u 10,MV.ptr 0 0,MV.val (Value.bool false),u 13,u 14,u 15,u 16,u 17,u 18,u 19,u 20,u 21,u 22,u 23,u 24,u 25,u 26,u 27,u 28,u 29,u 30,u 31,u 32,u 33,u 34,u 35,u 36,u 37,u 38,u 39,u 40,u 41,u 42,u 43] m:=by kernel_rfl
set_option maxRecDepth 100000 in
theorem s2 (u:Nat → MV) (n1:Nat) (a6:MV) (X Y S W H:Int) (n nc:Nat) (cs old new:List (List Int)) (kk:KE):xcode Try.prog E A9 1 (cut c36 [1,1,0]) (SH u n1 a6) (MS X Y S W H 2 n nc cs [some ⟨.rrecs (i64s 15) old,39⟩,some ⟨.rrecs (i64s 15) new,39⟩]) kk =
  bif List.length old == n then bif List.length new == n1 then bif decide (List.length old + List.length new ≤ 90) then kk XE.normal [MV.ptr 0 0,MV.va 3 0 n1 15,u 2,u 3,u 4,u 5,MV.va 4 0 (List.length (harmL old new)) 4,u 7,u 8,u 9,u 10,u 11,u 12,MV.ptr 0 0,MV.ptr 0 0,MV.ptr 0 5,MV.va 2 0 n 15,MV.va 3 0 n1 15,MV.va 4 0 (List.length (harmL old new)) 4,u 19,u 20,u 21,u 22,u 23,u 24,u 25,u 26,u 27,u 28,u 29,u 30,u 31,u 32,u 33,u 34,u 35,u 36,u 37,u 38,u 39,u 40,u 41,u 42,u 43] [some { row:=Row.lst [iv X,iv Y,iv S,iv W,iv H,MV.va 2 0 n 15,MV.va 1 0 nc 1],ty:=90 },some { row:=Row.recs [some IntKind.i64] cs,ty:=2 },some { row:=Row.rrecs [some IntKind.i64,some IntKind.i64,some IntKind.i64,some IntKind.i64,some IntKind.i64,some IntKind.i64,some IntKind.i64,some IntKind.i64,some IntKind.i64,some IntKind.i64,some IntKind.i64,some IntKind.i64,some IntKind.i64,some IntKind.i64,some IntKind.i64] old,ty:=39 },some { row:=Row.rrecs [some IntKind.i64,some IntKind.i64,some IntKind.i64,some IntKind.i64,some IntKind.i64,some IntKind.i64,some IntKind.i64,some IntKind.i64,some IntKind.i64,some IntKind.i64,some IntKind.i64,some IntKind.i64,some IntKind.i64,some IntKind.i64,some IntKind.i64] new,ty:=39 },some { row:=Row.recs [some IntKind.i64,some IntKind.i64,some IntKind.i64,some IntKind.i64] (harmL old new),ty:=37 }] else none else none else none:=by kernel_rfl
set_option maxRecDepth 100000 in
theorem s3 (u:Nat → MV) (n1:Nat) (a6:MV) (X Y S W H:Int) (n nc:Nat) (cs old new:List (List Int)) (hb:Option Blk) (kk:KE):xcode Try.prog E A9 1 (cut c36 [1,1,1,0]) (SH u n1 a6) (MS X Y S W H 2 n nc cs [some ⟨.rrecs (i64s 15) old,39⟩,some ⟨.rrecs (i64s 15) new,39⟩,hb]) kk =
  bif List.length new == n1 then bif decide (List.length new ≤ 1000000) then kk XE.normal [MV.ptr 0 0,MV.va 3 0 n1 15,u 2,u 3,u 4,u 5,a6,u 7,u 8,u 9,u 10,u 11,u 12,u 13,u 14,u 15,u 16,u 17,u 18,MV.ptr 0 0,MV.va 3 0 n1 15,MV.va 5 0 (List.length new) 15,MV.ptr 0 0,MV.ptr 0 5,u 24,u 25,u 26,u 27,u 28,u 29,u 30,u 31,u 32,u 33,u 34,u 35,u 36,u 37,u 38,u 39,u 40,u 41,u 42,u 43] [some { row:=Row.lst [iv X,iv Y,iv S,iv W,iv H,MV.va 5 0 (List.length new) 15,MV.va 1 0 nc 1],ty:=90 },some { row:=Row.recs [some IntKind.i64] cs,ty:=2 },some { row:=Row.rrecs [some IntKind.i64,some IntKind.i64,some IntKind.i64,some IntKind.i64,some IntKind.i64,some IntKind.i64,some IntKind.i64,some IntKind.i64,some IntKind.i64,some IntKind.i64,some IntKind.i64,some IntKind.i64,some IntKind.i64,some IntKind.i64,some IntKind.i64] old,ty:=39 },some { row:=Row.rrecs [some IntKind.i64,some IntKind.i64,some IntKind.i64,some IntKind.i64,some IntKind.i64,some IntKind.i64,some IntKind.i64,some IntKind.i64,some IntKind.i64,some IntKind.i64,some IntKind.i64,some IntKind.i64,some IntKind.i64,some IntKind.i64,some IntKind.i64] new,ty:=39 },hb,some { row:=Row.recs [some IntKind.i64,some IntKind.i64,some IntKind.i64,some IntKind.i64,some IntKind.i64,some IntKind.i64,some IntKind.i64,some IntKind.i64,some IntKind.i64,some IntKind.i64,some IntKind.i64,some IntKind.i64,some IntKind.i64,some IntKind.i64,some IntKind.i64] new,ty:=39 }] else none else none:=by kernel_rfl
set_option maxRecDepth 100000 in
theorem s4 (u:Nat → MV) (n1:Nat) (a6:MV) (m:Mem) (kk:KE):xcode Try.prog E A9 1 (cut c36 [1,1,1,1,0]) (SH u n1 a6) m kk =
  kk XE.normal [MV.ptr 0 0,MV.va 3 0 n1 15,u 2,u 3,u 4,u 5,a6,iv 0,u 8,u 9,u 10,u 11,u 12,u 13,u 14,u 15,u 16,u 17,u 18,u 19,u 20,u 21,u 22,u 23,u 24,u 25,u 26,u 27,u 28,u 29,u 30,u 31,u 32,u 33,u 34,u 35,u 36,u 37,u 38,u 39,u 40,u 41,u 42,u 43] m:=by kernel_rfl
set_option maxRecDepth 100000 in
theorem s6 (u:Nat → MV) (t7:Int) (len:Nat) (i:Int) (X Y S W H:Int) (n nc:Nat) (cs it rs:List (List Int)) (o2 o3:Option Blk) (kk:KE):xcode Try.prog E A9 1 (cut c36 [1,1,1,1,1,0,1,0,0]) (SL u t7 len i) (MS X Y S W H 5 n nc cs [o2,o3,some ⟨.recs (i64s 4) rs,37⟩,some ⟨.recs (i64s 15) it,39⟩]) kk =
  bif decide (i < (↑len:Int)) then bif decide (0 ≤ i ∧ i < (↑len:Int)) then bif decide (0 + Int.toNat i < List.length rs) then bif !empL (PPT.S37.f0 (meetL (List.getD (List.getD rs (0 + Int.toNat i) []) 0 0) (List.getD (List.getD rs (0 + Int.toNat i) []) (0 + 1) 0) (List.getD (List.getD rs (0 + Int.toNat i) []) (0 + 1 + 1) 0) (List.getD (List.getD rs (0 + Int.toNat i) []) (0 + 1 + 1 + 1) 0) X Y (w6 (X + w6 (W * S))) (w6 (Y + w6 (H * S))))) (PPT.S37.f1 (meetL (List.getD (List.getD rs (0 + Int.toNat i) []) 0 0) (List.getD (List.getD rs (0 + Int.toNat i) []) (0 + 1) 0) (List.getD (List.getD rs (0 + Int.toNat i) []) (0 + 1 + 1) 0) (List.getD (List.getD rs (0 + Int.toNat i) []) (0 + 1 + 1 + 1) 0) X Y (w6 (X + w6 (W * S))) (w6 (Y + w6 (H * S))))) (PPT.S37.f2 (meetL (List.getD (List.getD rs (0 + Int.toNat i) []) 0 0) (List.getD (List.getD rs (0 + Int.toNat i) []) (0 + 1) 0) (List.getD (List.getD rs (0 + Int.toNat i) []) (0 + 1 + 1) 0) (List.getD (List.getD rs (0 + Int.toNat i) []) (0 + 1 + 1 + 1) 0) X Y (w6 (X + w6 (W * S))) (w6 (Y + w6 (H * S))))) (PPT.S37.f3 (meetL (List.getD (List.getD rs (0 + Int.toNat i) []) 0 0) (List.getD (List.getD rs (0 + Int.toNat i) []) (0 + 1) 0) (List.getD (List.getD rs (0 + Int.toNat i) []) (0 + 1 + 1) 0) (List.getD (List.getD rs (0 + Int.toNat i) []) (0 + 1 + 1 + 1) 0) X Y (w6 (X + w6 (W * S))) (w6 (Y + w6 (H * S))))) then bif paintOk X Y S W H n nc cs it (PPT.S37.f0 (meetL (List.getD (List.getD rs (0 + Int.toNat i) []) 0 0) (List.getD (List.getD rs (0 + Int.toNat i) []) (0 + 1) 0) (List.getD (List.getD rs (0 + Int.toNat i) []) (0 + 1 + 1) 0) (List.getD (List.getD rs (0 + Int.toNat i) []) (0 + 1 + 1 + 1) 0) X Y (w6 (X + w6 (W * S))) (w6 (Y + w6 (H * S))))) (PPT.S37.f1 (meetL (List.getD (List.getD rs (0 + Int.toNat i) []) 0 0) (List.getD (List.getD rs (0 + Int.toNat i) []) (0 + 1) 0) (List.getD (List.getD rs (0 + Int.toNat i) []) (0 + 1 + 1) 0) (List.getD (List.getD rs (0 + Int.toNat i) []) (0 + 1 + 1 + 1) 0) X Y (w6 (X + w6 (W * S))) (w6 (Y + w6 (H * S))))) (PPT.S37.f2 (meetL (List.getD (List.getD rs (0 + Int.toNat i) []) 0 0) (List.getD (List.getD rs (0 + Int.toNat i) []) (0 + 1) 0) (List.getD (List.getD rs (0 + Int.toNat i) []) (0 + 1 + 1) 0) (List.getD (List.getD rs (0 + Int.toNat i) []) (0 + 1 + 1 + 1) 0) X Y (w6 (X + w6 (W * S))) (w6 (Y + w6 (H * S))))) (PPT.S37.f3 (meetL (List.getD (List.getD rs (0 + Int.toNat i) []) 0 0) (List.getD (List.getD rs (0 + Int.toNat i) []) (0 + 1) 0) (List.getD (List.getD rs (0 + Int.toNat i) []) (0 + 1 + 1) 0) (List.getD (List.getD rs (0 + Int.toNat i) []) (0 + 1 + 1 + 1) 0) X Y (w6 (X + w6 (W * S))) (w6 (Y + w6 (H * S))))) then kk XE.normal [MV.ptr 0 0,u 1,u 2,u 3,u 4,u 5,u 6,iv (IntKind.wrap IntKind.i64 (t7 + paintN X Y S W H (PPT.S37.f0 (meetL (List.getD (List.getD rs (0 + Int.toNat i) []) 0 0) (List.getD (List.getD rs (0 + Int.toNat i) []) (0 + 1) 0) (List.getD (List.getD rs (0 + Int.toNat i) []) (0 + 1 + 1) 0) (List.getD (List.getD rs (0 + Int.toNat i) []) (0 + 1 + 1 + 1) 0) X Y (w6 (X + w6 (W * S))) (w6 (Y + w6 (H * S))))) (PPT.S37.f1 (meetL (List.getD (List.getD rs (0 + Int.toNat i) []) 0 0) (List.getD (List.getD rs (0 + Int.toNat i) []) (0 + 1) 0) (List.getD (List.getD rs (0 + Int.toNat i) []) (0 + 1 + 1) 0) (List.getD (List.getD rs (0 + Int.toNat i) []) (0 + 1 + 1 + 1) 0) X Y (w6 (X + w6 (W * S))) (w6 (Y + w6 (H * S))))) (PPT.S37.f2 (meetL (List.getD (List.getD rs (0 + Int.toNat i) []) 0 0) (List.getD (List.getD rs (0 + Int.toNat i) []) (0 + 1) 0) (List.getD (List.getD rs (0 + Int.toNat i) []) (0 + 1 + 1) 0) (List.getD (List.getD rs (0 + Int.toNat i) []) (0 + 1 + 1 + 1) 0) X Y (w6 (X + w6 (W * S))) (w6 (Y + w6 (H * S))))) (PPT.S37.f3 (meetL (List.getD (List.getD rs (0 + Int.toNat i) []) 0 0) (List.getD (List.getD rs (0 + Int.toNat i) []) (0 + 1) 0) (List.getD (List.getD rs (0 + Int.toNat i) []) (0 + 1 + 1) 0) (List.getD (List.getD rs (0 + Int.toNat i) []) (0 + 1 + 1 + 1) 0) X Y (w6 (X + w6 (W * S))) (w6 (Y + w6 (H * S))))))),u 8,MV.ptr 6 0,MV.ptr 11 0,u 11,u 12,u 13,u 14,u 15,u 16,u 17,u 18,u 19,u 20,u 21,u 22,u 23,MV.va 4 0 len 4,iv (↑len:Int),iv (IntKind.wrap IntKind.i64 (i + 1)),MV.val (Value.bool true),MV.pe 4 4 (0 + Int.toNat i) 0,MV.agg [iv (List.getD (List.getD rs (0 + Int.toNat i) []) 0 0),iv (List.getD (List.getD rs (0 + Int.toNat i) []) (0 + 1) 0),iv (List.getD (List.getD rs (0 + Int.toNat i) []) (0 + 1 + 1) 0),iv (List.getD (List.getD rs (0 + Int.toNat i) []) (0 + 1 + 1 + 1) 0)],MV.agg [iv (List.getD (List.getD rs (0 + Int.toNat i) []) 0 0),iv (List.getD (List.getD rs (0 + Int.toNat i) []) (0 + 1) 0),iv (List.getD (List.getD rs (0 + Int.toNat i) []) (0 + 1 + 1) 0),iv (List.getD (List.getD rs (0 + Int.toNat i) []) (0 + 1 + 1 + 1) 0)],MV.ptr 0 0,MV.agg [iv X,iv Y,iv (w6 (X + w6 (W * S))),iv (w6 (Y + w6 (H * S)))],MV.agg [iv (PPT.S37.f0 (meetL (List.getD (List.getD rs (0 + Int.toNat i) []) 0 0) (List.getD (List.getD rs (0 + Int.toNat i) []) (0 + 1) 0) (List.getD (List.getD rs (0 + Int.toNat i) []) (0 + 1 + 1) 0) (List.getD (List.getD rs (0 + Int.toNat i) []) (0 + 1 + 1 + 1) 0) X Y (w6 (X + w6 (W * S))) (w6 (Y + w6 (H * S))))),iv (PPT.S37.f1 (meetL (List.getD (List.getD rs (0 + Int.toNat i) []) 0 0) (List.getD (List.getD rs (0 + Int.toNat i) []) (0 + 1) 0) (List.getD (List.getD rs (0 + Int.toNat i) []) (0 + 1 + 1) 0) (List.getD (List.getD rs (0 + Int.toNat i) []) (0 + 1 + 1 + 1) 0) X Y (w6 (X + w6 (W * S))) (w6 (Y + w6 (H * S))))),iv (PPT.S37.f2 (meetL (List.getD (List.getD rs (0 + Int.toNat i) []) 0 0) (List.getD (List.getD rs (0 + Int.toNat i) []) (0 + 1) 0) (List.getD (List.getD rs (0 + Int.toNat i) []) (0 + 1 + 1) 0) (List.getD (List.getD rs (0 + Int.toNat i) []) (0 + 1 + 1 + 1) 0) X Y (w6 (X + w6 (W * S))) (w6 (Y + w6 (H * S))))),iv (PPT.S37.f3 (meetL (List.getD (List.getD rs (0 + Int.toNat i) []) 0 0) (List.getD (List.getD rs (0 + Int.toNat i) []) (0 + 1) 0) (List.getD (List.getD rs (0 + Int.toNat i) []) (0 + 1 + 1) 0) (List.getD (List.getD rs (0 + Int.toNat i) []) (0 + 1 + 1 + 1) 0) X Y (w6 (X + w6 (W * S))) (w6 (Y + w6 (H * S)))))],MV.agg [iv (PPT.S37.f0 (meetL (List.getD (List.getD rs (0 + Int.toNat i) []) 0 0) (List.getD (List.getD rs (0 + Int.toNat i) []) (0 + 1) 0) (List.getD (List.getD rs (0 + Int.toNat i) []) (0 + 1 + 1) 0) (List.getD (List.getD rs (0 + Int.toNat i) []) (0 + 1 + 1 + 1) 0) X Y (w6 (X + w6 (W * S))) (w6 (Y + w6 (H * S))))),iv (PPT.S37.f1 (meetL (List.getD (List.getD rs (0 + Int.toNat i) []) 0 0) (List.getD (List.getD rs (0 + Int.toNat i) []) (0 + 1) 0) (List.getD (List.getD rs (0 + Int.toNat i) []) (0 + 1 + 1) 0) (List.getD (List.getD rs (0 + Int.toNat i) []) (0 + 1 + 1 + 1) 0) X Y (w6 (X + w6 (W * S))) (w6 (Y + w6 (H * S))))),iv (PPT.S37.f2 (meetL (List.getD (List.getD rs (0 + Int.toNat i) []) 0 0) (List.getD (List.getD rs (0 + Int.toNat i) []) (0 + 1) 0) (List.getD (List.getD rs (0 + Int.toNat i) []) (0 + 1 + 1) 0) (List.getD (List.getD rs (0 + Int.toNat i) []) (0 + 1 + 1 + 1) 0) X Y (w6 (X + w6 (W * S))) (w6 (Y + w6 (H * S))))),iv (PPT.S37.f3 (meetL (List.getD (List.getD rs (0 + Int.toNat i) []) 0 0) (List.getD (List.getD rs (0 + Int.toNat i) []) (0 + 1) 0) (List.getD (List.getD rs (0 + Int.toNat i) []) (0 + 1 + 1) 0) (List.getD (List.getD rs (0 + Int.toNat i) []) (0 + 1 + 1 + 1) 0) X Y (w6 (X + w6 (W * S))) (w6 (Y + w6 (H * S)))))],MV.val (Value.bool (empL (PPT.S37.f0 (meetL (List.getD (List.getD rs (0 + Int.toNat i) []) 0 0) (List.getD (List.getD rs (0 + Int.toNat i) []) (0 + 1) 0) (List.getD (List.getD rs (0 + Int.toNat i) []) (0 + 1 + 1) 0) (List.getD (List.getD rs (0 + Int.toNat i) []) (0 + 1 + 1 + 1) 0) X Y (w6 (X + w6 (W * S))) (w6 (Y + w6 (H * S))))) (PPT.S37.f1 (meetL (List.getD (List.getD rs (0 + Int.toNat i) []) 0 0) (List.getD (List.getD rs (0 + Int.toNat i) []) (0 + 1) 0) (List.getD (List.getD rs (0 + Int.toNat i) []) (0 + 1 + 1) 0) (List.getD (List.getD rs (0 + Int.toNat i) []) (0 + 1 + 1 + 1) 0) X Y (w6 (X + w6 (W * S))) (w6 (Y + w6 (H * S))))) (PPT.S37.f2 (meetL (List.getD (List.getD rs (0 + Int.toNat i) []) 0 0) (List.getD (List.getD rs (0 + Int.toNat i) []) (0 + 1) 0) (List.getD (List.getD rs (0 + Int.toNat i) []) (0 + 1 + 1) 0) (List.getD (List.getD rs (0 + Int.toNat i) []) (0 + 1 + 1 + 1) 0) X Y (w6 (X + w6 (W * S))) (w6 (Y + w6 (H * S))))) (PPT.S37.f3 (meetL (List.getD (List.getD rs (0 + Int.toNat i) []) 0 0) (List.getD (List.getD rs (0 + Int.toNat i) []) (0 + 1) 0) (List.getD (List.getD rs (0 + Int.toNat i) []) (0 + 1 + 1) 0) (List.getD (List.getD rs (0 + Int.toNat i) []) (0 + 1 + 1 + 1) 0) X Y (w6 (X + w6 (W * S))) (w6 (Y + w6 (H * S))))))),MV.val (Value.bool true),iv t7,MV.ptr 0 0,MV.agg [iv (PPT.S37.f0 (meetL (List.getD (List.getD rs (0 + Int.toNat i) []) 0 0) (List.getD (List.getD rs (0 + Int.toNat i) []) (0 + 1) 0) (List.getD (List.getD rs (0 + Int.toNat i) []) (0 + 1 + 1) 0) (List.getD (List.getD rs (0 + Int.toNat i) []) (0 + 1 + 1 + 1) 0) X Y (w6 (X + w6 (W * S))) (w6 (Y + w6 (H * S))))),iv (PPT.S37.f1 (meetL (List.getD (List.getD rs (0 + Int.toNat i) []) 0 0) (List.getD (List.getD rs (0 + Int.toNat i) []) (0 + 1) 0) (List.getD (List.getD rs (0 + Int.toNat i) []) (0 + 1 + 1) 0) (List.getD (List.getD rs (0 + Int.toNat i) []) (0 + 1 + 1 + 1) 0) X Y (w6 (X + w6 (W * S))) (w6 (Y + w6 (H * S))))),iv (PPT.S37.f2 (meetL (List.getD (List.getD rs (0 + Int.toNat i) []) 0 0) (List.getD (List.getD rs (0 + Int.toNat i) []) (0 + 1) 0) (List.getD (List.getD rs (0 + Int.toNat i) []) (0 + 1 + 1) 0) (List.getD (List.getD rs (0 + Int.toNat i) []) (0 + 1 + 1 + 1) 0) X Y (w6 (X + w6 (W * S))) (w6 (Y + w6 (H * S))))),iv (PPT.S37.f3 (meetL (List.getD (List.getD rs (0 + Int.toNat i) []) 0 0) (List.getD (List.getD rs (0 + Int.toNat i) []) (0 + 1) 0) (List.getD (List.getD rs (0 + Int.toNat i) []) (0 + 1 + 1) 0) (List.getD (List.getD rs (0 + Int.toNat i) []) (0 + 1 + 1 + 1) 0) X Y (w6 (X + w6 (W * S))) (w6 (Y + w6 (H * S)))))],iv (paintN X Y S W H (PPT.S37.f0 (meetL (List.getD (List.getD rs (0 + Int.toNat i) []) 0 0) (List.getD (List.getD rs (0 + Int.toNat i) []) (0 + 1) 0) (List.getD (List.getD rs (0 + Int.toNat i) []) (0 + 1 + 1) 0) (List.getD (List.getD rs (0 + Int.toNat i) []) (0 + 1 + 1 + 1) 0) X Y (w6 (X + w6 (W * S))) (w6 (Y + w6 (H * S))))) (PPT.S37.f1 (meetL (List.getD (List.getD rs (0 + Int.toNat i) []) 0 0) (List.getD (List.getD rs (0 + Int.toNat i) []) (0 + 1) 0) (List.getD (List.getD rs (0 + Int.toNat i) []) (0 + 1 + 1) 0) (List.getD (List.getD rs (0 + Int.toNat i) []) (0 + 1 + 1 + 1) 0) X Y (w6 (X + w6 (W * S))) (w6 (Y + w6 (H * S))))) (PPT.S37.f2 (meetL (List.getD (List.getD rs (0 + Int.toNat i) []) 0 0) (List.getD (List.getD rs (0 + Int.toNat i) []) (0 + 1) 0) (List.getD (List.getD rs (0 + Int.toNat i) []) (0 + 1 + 1) 0) (List.getD (List.getD rs (0 + Int.toNat i) []) (0 + 1 + 1 + 1) 0) X Y (w6 (X + w6 (W * S))) (w6 (Y + w6 (H * S))))) (PPT.S37.f3 (meetL (List.getD (List.getD rs (0 + Int.toNat i) []) 0 0) (List.getD (List.getD rs (0 + Int.toNat i) []) (0 + 1) 0) (List.getD (List.getD rs (0 + Int.toNat i) []) (0 + 1 + 1) 0) (List.getD (List.getD rs (0 + Int.toNat i) []) (0 + 1 + 1 + 1) 0) X Y (w6 (X + w6 (W * S))) (w6 (Y + w6 (H * S)))))),iv (IntKind.wrap IntKind.i64 (t7 + paintN X Y S W H (PPT.S37.f0 (meetL (List.getD (List.getD rs (0 + Int.toNat i) []) 0 0) (List.getD (List.getD rs (0 + Int.toNat i) []) (0 + 1) 0) (List.getD (List.getD rs (0 + Int.toNat i) []) (0 + 1 + 1) 0) (List.getD (List.getD rs (0 + Int.toNat i) []) (0 + 1 + 1 + 1) 0) X Y (w6 (X + w6 (W * S))) (w6 (Y + w6 (H * S))))) (PPT.S37.f1 (meetL (List.getD (List.getD rs (0 + Int.toNat i) []) 0 0) (List.getD (List.getD rs (0 + Int.toNat i) []) (0 + 1) 0) (List.getD (List.getD rs (0 + Int.toNat i) []) (0 + 1 + 1) 0) (List.getD (List.getD rs (0 + Int.toNat i) []) (0 + 1 + 1 + 1) 0) X Y (w6 (X + w6 (W * S))) (w6 (Y + w6 (H * S))))) (PPT.S37.f2 (meetL (List.getD (List.getD rs (0 + Int.toNat i) []) 0 0) (List.getD (List.getD rs (0 + Int.toNat i) []) (0 + 1) 0) (List.getD (List.getD rs (0 + Int.toNat i) []) (0 + 1 + 1) 0) (List.getD (List.getD rs (0 + Int.toNat i) []) (0 + 1 + 1 + 1) 0) X Y (w6 (X + w6 (W * S))) (w6 (Y + w6 (H * S))))) (PPT.S37.f3 (meetL (List.getD (List.getD rs (0 + Int.toNat i) []) 0 0) (List.getD (List.getD rs (0 + Int.toNat i) []) (0 + 1) 0) (List.getD (List.getD rs (0 + Int.toNat i) []) (0 + 1 + 1) 0) (List.getD (List.getD rs (0 + Int.toNat i) []) (0 + 1 + 1 + 1) 0) X Y (w6 (X + w6 (W * S))) (w6 (Y + w6 (H * S))))))),iv (IntKind.wrap IntKind.i64 (i + 1)),u 43] [some { row:=Row.lst [iv X,iv Y,iv S,iv W,iv H,MV.va 5 0 n 15,MV.va 1 0 nc 1],ty:=90 },some { row:=Row.recs [some IntKind.i64] (paintC X Y S W H it (PPT.S37.f0 (meetL (List.getD (List.getD rs (0 + Int.toNat i) []) 0 0) (List.getD (List.getD rs (0 + Int.toNat i) []) (0 + 1) 0) (List.getD (List.getD rs (0 + Int.toNat i) []) (0 + 1 + 1) 0) (List.getD (List.getD rs (0 + Int.toNat i) []) (0 + 1 + 1 + 1) 0) X Y (w6 (X + w6 (W * S))) (w6 (Y + w6 (H * S))))) (PPT.S37.f1 (meetL (List.getD (List.getD rs (0 + Int.toNat i) []) 0 0) (List.getD (List.getD rs (0 + Int.toNat i) []) (0 + 1) 0) (List.getD (List.getD rs (0 + Int.toNat i) []) (0 + 1 + 1) 0) (List.getD (List.getD rs (0 + Int.toNat i) []) (0 + 1 + 1 + 1) 0) X Y (w6 (X + w6 (W * S))) (w6 (Y + w6 (H * S))))) (PPT.S37.f2 (meetL (List.getD (List.getD rs (0 + Int.toNat i) []) 0 0) (List.getD (List.getD rs (0 + Int.toNat i) []) (0 + 1) 0) (List.getD (List.getD rs (0 + Int.toNat i) []) (0 + 1 + 1) 0) (List.getD (List.getD rs (0 + Int.toNat i) []) (0 + 1 + 1 + 1) 0) X Y (w6 (X + w6 (W * S))) (w6 (Y + w6 (H * S))))) (PPT.S37.f3 (meetL (List.getD (List.getD rs (0 + Int.toNat i) []) 0 0) (List.getD (List.getD rs (0 + Int.toNat i) []) (0 + 1) 0) (List.getD (List.getD rs (0 + Int.toNat i) []) (0 + 1 + 1) 0) (List.getD (List.getD rs (0 + Int.toNat i) []) (0 + 1 + 1 + 1) 0) X Y (w6 (X + w6 (W * S))) (w6 (Y + w6 (H * S))))) cs),ty:=2 },o2,o3,some { row:=Row.recs [some IntKind.i64,some IntKind.i64,some IntKind.i64,some IntKind.i64] rs,ty:=37 },some { row:=Row.recs [some IntKind.i64,some IntKind.i64,some IntKind.i64,some IntKind.i64,some IntKind.i64,some IntKind.i64,some IntKind.i64,some IntKind.i64,some IntKind.i64,some IntKind.i64,some IntKind.i64,some IntKind.i64,some IntKind.i64,some IntKind.i64,some IntKind.i64] it,ty:=39 },some { row:=Row.lst [iv (List.getD (List.getD rs (0 + Int.toNat i) []) 0 0),iv (List.getD (List.getD rs (0 + Int.toNat i) []) (0 + 1) 0),iv (List.getD (List.getD rs (0 + Int.toNat i) []) (0 + 1 + 1) 0),iv (List.getD (List.getD rs (0 + Int.toNat i) []) (0 + 1 + 1 + 1) 0)],ty:=37 },none,none,none,none,some { row:=Row.lst [iv (PPT.S37.f0 (meetL (List.getD (List.getD rs (0 + Int.toNat i) []) 0 0) (List.getD (List.getD rs (0 + Int.toNat i) []) (0 + 1) 0) (List.getD (List.getD rs (0 + Int.toNat i) []) (0 + 1 + 1) 0) (List.getD (List.getD rs (0 + Int.toNat i) []) (0 + 1 + 1 + 1) 0) X Y (w6 (X + w6 (W * S))) (w6 (Y + w6 (H * S))))),iv (PPT.S37.f1 (meetL (List.getD (List.getD rs (0 + Int.toNat i) []) 0 0) (List.getD (List.getD rs (0 + Int.toNat i) []) (0 + 1) 0) (List.getD (List.getD rs (0 + Int.toNat i) []) (0 + 1 + 1) 0) (List.getD (List.getD rs (0 + Int.toNat i) []) (0 + 1 + 1 + 1) 0) X Y (w6 (X + w6 (W * S))) (w6 (Y + w6 (H * S))))),iv (PPT.S37.f2 (meetL (List.getD (List.getD rs (0 + Int.toNat i) []) 0 0) (List.getD (List.getD rs (0 + Int.toNat i) []) (0 + 1) 0) (List.getD (List.getD rs (0 + Int.toNat i) []) (0 + 1 + 1) 0) (List.getD (List.getD rs (0 + Int.toNat i) []) (0 + 1 + 1 + 1) 0) X Y (w6 (X + w6 (W * S))) (w6 (Y + w6 (H * S))))),iv (PPT.S37.f3 (meetL (List.getD (List.getD rs (0 + Int.toNat i) []) 0 0) (List.getD (List.getD rs (0 + Int.toNat i) []) (0 + 1) 0) (List.getD (List.getD rs (0 + Int.toNat i) []) (0 + 1 + 1) 0) (List.getD (List.getD rs (0 + Int.toNat i) []) (0 + 1 + 1 + 1) 0) X Y (w6 (X + w6 (W * S))) (w6 (Y + w6 (H * S)))))],ty:=37 },none] else none else kk XE.normal [MV.ptr 0 0,u 1,u 2,u 3,u 4,u 5,u 6,iv t7,u 8,MV.ptr 6 0,MV.ptr 11 0,u 11,u 12,u 13,u 14,u 15,u 16,u 17,u 18,u 19,u 20,u 21,u 22,u 23,MV.va 4 0 len 4,iv (↑len:Int),iv (IntKind.wrap IntKind.i64 (i + 1)),MV.val (Value.bool true),MV.pe 4 4 (0 + Int.toNat i) 0,MV.agg [iv (List.getD (List.getD rs (0 + Int.toNat i) []) 0 0),iv (List.getD (List.getD rs (0 + Int.toNat i) []) (0 + 1) 0),iv (List.getD (List.getD rs (0 + Int.toNat i) []) (0 + 1 + 1) 0),iv (List.getD (List.getD rs (0 + Int.toNat i) []) (0 + 1 + 1 + 1) 0)],MV.agg [iv (List.getD (List.getD rs (0 + Int.toNat i) []) 0 0),iv (List.getD (List.getD rs (0 + Int.toNat i) []) (0 + 1) 0),iv (List.getD (List.getD rs (0 + Int.toNat i) []) (0 + 1 + 1) 0),iv (List.getD (List.getD rs (0 + Int.toNat i) []) (0 + 1 + 1 + 1) 0)],MV.ptr 0 0,MV.agg [iv X,iv Y,iv (w6 (X + w6 (W * S))),iv (w6 (Y + w6 (H * S)))],MV.agg [iv (PPT.S37.f0 (meetL (List.getD (List.getD rs (0 + Int.toNat i) []) 0 0) (List.getD (List.getD rs (0 + Int.toNat i) []) (0 + 1) 0) (List.getD (List.getD rs (0 + Int.toNat i) []) (0 + 1 + 1) 0) (List.getD (List.getD rs (0 + Int.toNat i) []) (0 + 1 + 1 + 1) 0) X Y (w6 (X + w6 (W * S))) (w6 (Y + w6 (H * S))))),iv (PPT.S37.f1 (meetL (List.getD (List.getD rs (0 + Int.toNat i) []) 0 0) (List.getD (List.getD rs (0 + Int.toNat i) []) (0 + 1) 0) (List.getD (List.getD rs (0 + Int.toNat i) []) (0 + 1 + 1) 0) (List.getD (List.getD rs (0 + Int.toNat i) []) (0 + 1 + 1 + 1) 0) X Y (w6 (X + w6 (W * S))) (w6 (Y + w6 (H * S))))),iv (PPT.S37.f2 (meetL (List.getD (List.getD rs (0 + Int.toNat i) []) 0 0) (List.getD (List.getD rs (0 + Int.toNat i) []) (0 + 1) 0) (List.getD (List.getD rs (0 + Int.toNat i) []) (0 + 1 + 1) 0) (List.getD (List.getD rs (0 + Int.toNat i) []) (0 + 1 + 1 + 1) 0) X Y (w6 (X + w6 (W * S))) (w6 (Y + w6 (H * S))))),iv (PPT.S37.f3 (meetL (List.getD (List.getD rs (0 + Int.toNat i) []) 0 0) (List.getD (List.getD rs (0 + Int.toNat i) []) (0 + 1) 0) (List.getD (List.getD rs (0 + Int.toNat i) []) (0 + 1 + 1) 0) (List.getD (List.getD rs (0 + Int.toNat i) []) (0 + 1 + 1 + 1) 0) X Y (w6 (X + w6 (W * S))) (w6 (Y + w6 (H * S)))))],MV.agg [iv (PPT.S37.f0 (meetL (List.getD (List.getD rs (0 + Int.toNat i) []) 0 0) (List.getD (List.getD rs (0 + Int.toNat i) []) (0 + 1) 0) (List.getD (List.getD rs (0 + Int.toNat i) []) (0 + 1 + 1) 0) (List.getD (List.getD rs (0 + Int.toNat i) []) (0 + 1 + 1 + 1) 0) X Y (w6 (X + w6 (W * S))) (w6 (Y + w6 (H * S))))),iv (PPT.S37.f1 (meetL (List.getD (List.getD rs (0 + Int.toNat i) []) 0 0) (List.getD (List.getD rs (0 + Int.toNat i) []) (0 + 1) 0) (List.getD (List.getD rs (0 + Int.toNat i) []) (0 + 1 + 1) 0) (List.getD (List.getD rs (0 + Int.toNat i) []) (0 + 1 + 1 + 1) 0) X Y (w6 (X + w6 (W * S))) (w6 (Y + w6 (H * S))))),iv (PPT.S37.f2 (meetL (List.getD (List.getD rs (0 + Int.toNat i) []) 0 0) (List.getD (List.getD rs (0 + Int.toNat i) []) (0 + 1) 0) (List.getD (List.getD rs (0 + Int.toNat i) []) (0 + 1 + 1) 0) (List.getD (List.getD rs (0 + Int.toNat i) []) (0 + 1 + 1 + 1) 0) X Y (w6 (X + w6 (W * S))) (w6 (Y + w6 (H * S))))),iv (PPT.S37.f3 (meetL (List.getD (List.getD rs (0 + Int.toNat i) []) 0 0) (List.getD (List.getD rs (0 + Int.toNat i) []) (0 + 1) 0) (List.getD (List.getD rs (0 + Int.toNat i) []) (0 + 1 + 1) 0) (List.getD (List.getD rs (0 + Int.toNat i) []) (0 + 1 + 1 + 1) 0) X Y (w6 (X + w6 (W * S))) (w6 (Y + w6 (H * S)))))],MV.val (Value.bool (empL (PPT.S37.f0 (meetL (List.getD (List.getD rs (0 + Int.toNat i) []) 0 0) (List.getD (List.getD rs (0 + Int.toNat i) []) (0 + 1) 0) (List.getD (List.getD rs (0 + Int.toNat i) []) (0 + 1 + 1) 0) (List.getD (List.getD rs (0 + Int.toNat i) []) (0 + 1 + 1 + 1) 0) X Y (w6 (X + w6 (W * S))) (w6 (Y + w6 (H * S))))) (PPT.S37.f1 (meetL (List.getD (List.getD rs (0 + Int.toNat i) []) 0 0) (List.getD (List.getD rs (0 + Int.toNat i) []) (0 + 1) 0) (List.getD (List.getD rs (0 + Int.toNat i) []) (0 + 1 + 1) 0) (List.getD (List.getD rs (0 + Int.toNat i) []) (0 + 1 + 1 + 1) 0) X Y (w6 (X + w6 (W * S))) (w6 (Y + w6 (H * S))))) (PPT.S37.f2 (meetL (List.getD (List.getD rs (0 + Int.toNat i) []) 0 0) (List.getD (List.getD rs (0 + Int.toNat i) []) (0 + 1) 0) (List.getD (List.getD rs (0 + Int.toNat i) []) (0 + 1 + 1) 0) (List.getD (List.getD rs (0 + Int.toNat i) []) (0 + 1 + 1 + 1) 0) X Y (w6 (X + w6 (W * S))) (w6 (Y + w6 (H * S))))) (PPT.S37.f3 (meetL (List.getD (List.getD rs (0 + Int.toNat i) []) 0 0) (List.getD (List.getD rs (0 + Int.toNat i) []) (0 + 1) 0) (List.getD (List.getD rs (0 + Int.toNat i) []) (0 + 1 + 1) 0) (List.getD (List.getD rs (0 + Int.toNat i) []) (0 + 1 + 1 + 1) 0) X Y (w6 (X + w6 (W * S))) (w6 (Y + w6 (H * S))))))),MV.val (Value.bool false),u 37,u 38,u 39,u 40,u 41,iv (IntKind.wrap IntKind.i64 (i + 1)),u 43] [some { row:=Row.lst [iv X,iv Y,iv S,iv W,iv H,MV.va 5 0 n 15,MV.va 1 0 nc 1],ty:=90 },some { row:=Row.recs [some IntKind.i64] cs,ty:=2 },o2,o3,some { row:=Row.recs [some IntKind.i64,some IntKind.i64,some IntKind.i64,some IntKind.i64] rs,ty:=37 },some { row:=Row.recs [some IntKind.i64,some IntKind.i64,some IntKind.i64,some IntKind.i64,some IntKind.i64,some IntKind.i64,some IntKind.i64,some IntKind.i64,some IntKind.i64,some IntKind.i64,some IntKind.i64,some IntKind.i64,some IntKind.i64,some IntKind.i64,some IntKind.i64] it,ty:=39 },some { row:=Row.lst [iv (List.getD (List.getD rs (0 + Int.toNat i) []) 0 0),iv (List.getD (List.getD rs (0 + Int.toNat i) []) (0 + 1) 0),iv (List.getD (List.getD rs (0 + Int.toNat i) []) (0 + 1 + 1) 0),iv (List.getD (List.getD rs (0 + Int.toNat i) []) (0 + 1 + 1 + 1) 0)],ty:=37 },none,none,none,none,some { row:=Row.lst [iv (PPT.S37.f0 (meetL (List.getD (List.getD rs (0 + Int.toNat i) []) 0 0) (List.getD (List.getD rs (0 + Int.toNat i) []) (0 + 1) 0) (List.getD (List.getD rs (0 + Int.toNat i) []) (0 + 1 + 1) 0) (List.getD (List.getD rs (0 + Int.toNat i) []) (0 + 1 + 1 + 1) 0) X Y (w6 (X + w6 (W * S))) (w6 (Y + w6 (H * S))))),iv (PPT.S37.f1 (meetL (List.getD (List.getD rs (0 + Int.toNat i) []) 0 0) (List.getD (List.getD rs (0 + Int.toNat i) []) (0 + 1) 0) (List.getD (List.getD rs (0 + Int.toNat i) []) (0 + 1 + 1) 0) (List.getD (List.getD rs (0 + Int.toNat i) []) (0 + 1 + 1 + 1) 0) X Y (w6 (X + w6 (W * S))) (w6 (Y + w6 (H * S))))),iv (PPT.S37.f2 (meetL (List.getD (List.getD rs (0 + Int.toNat i) []) 0 0) (List.getD (List.getD rs (0 + Int.toNat i) []) (0 + 1) 0) (List.getD (List.getD rs (0 + Int.toNat i) []) (0 + 1 + 1) 0) (List.getD (List.getD rs (0 + Int.toNat i) []) (0 + 1 + 1 + 1) 0) X Y (w6 (X + w6 (W * S))) (w6 (Y + w6 (H * S))))),iv (PPT.S37.f3 (meetL (List.getD (List.getD rs (0 + Int.toNat i) []) 0 0) (List.getD (List.getD rs (0 + Int.toNat i) []) (0 + 1) 0) (List.getD (List.getD rs (0 + Int.toNat i) []) (0 + 1 + 1) 0) (List.getD (List.getD rs (0 + Int.toNat i) []) (0 + 1 + 1 + 1) 0) X Y (w6 (X + w6 (W * S))) (w6 (Y + w6 (H * S)))))],ty:=37 },none] else none else none else kk (XE.exit 0) [MV.ptr 0 0,u 1,u 2,u 3,u 4,u 5,u 6,iv t7,u 8,u 9,u 10,u 11,u 12,u 13,u 14,u 15,u 16,u 17,u 18,u 19,u 20,u 21,u 22,u 23,MV.va 4 0 len 4,iv (↑len:Int),iv i,MV.val (Value.bool false),u 28,u 29,u 30,u 31,u 32,u 33,u 34,u 35,u 36,u 37,u 38,u 39,u 40,u 41,u 42,u 43] [some { row:=Row.lst [iv X,iv Y,iv S,iv W,iv H,MV.va 5 0 n 15,MV.va 1 0 nc 1],ty:=90 },some { row:=Row.recs [some IntKind.i64] cs,ty:=2 },o2,o3,some { row:=Row.recs [some IntKind.i64,some IntKind.i64,some IntKind.i64,some IntKind.i64] rs,ty:=37 },some { row:=Row.recs [some IntKind.i64,some IntKind.i64,some IntKind.i64,some IntKind.i64,some IntKind.i64,some IntKind.i64,some IntKind.i64,some IntKind.i64,some IntKind.i64,some IntKind.i64,some IntKind.i64,some IntKind.i64,some IntKind.i64,some IntKind.i64,some IntKind.i64] it,ty:=39 }]:=by kernel_rfl
set_option maxRecDepth 100000 in
theorem s7 (u:Nat → MV) (t7:Int) (len:Nat) (i:Int) (m:Mem) (kk:KE):xcode Try.prog E A9 1 (cut c36 [1,1,1,1,1,1]) (SL u t7 len i) m kk =
  kk XE.ret [MV.ptr 0 0,u 1,u 2,u 3,iv t7,iv 0,u 6,iv t7,u 8,u 9,u 10,u 11,u 12,u 13,u 14,u 15,u 16,u 17,u 18,u 19,u 20,u 21,u 22,u 23,MV.va 4 0 len 4,iv (↑len:Int),iv i,u 27,u 28,u 29,u 30,u 31,u 32,u 33,u 34,u 35,u 36,u 37,u 38,u 39,u 40,u 41,u 42,iv t7] m:=by kernel_rfl
end Go.Proofs.Ytppklhfiajjhmaa.Ti
end
section
namespace Go.Proofs.Ytppklhfiajjhmaa.Ti
open Go Go.RowKit Go.Proofs.Ytppklhfiajjhmaa.Y
set_option linter.unusedVariables false
set_option linter.unusedSimpArgs false
structure IsSH (tm:List MV) (n1:Nat) (a6:MV):Prop where
 len:tm.length = 44
 h0:tm[0]? = some (.ptr 0 0)
 h1:tm[1]? = some (.va 3 0 n1 15)
 h6:tm[6]? = some a6
theorem IsSH.eq {tm:List MV} {n1:Nat} {a6:MV} (h:IsSH tm n1 a6):∃ u,tm = SH u n1 a6:=by
 refine ⟨fun i => tm.getD i (.val undef),list_eq (p:=[.ptr 0 0,.va 3 0 n1 15,_,_,_,_,a6]) h.len (by simp) (fun i hi => ?_)⟩
 match i,hi with
 | 0,_ => exact h.h0
 | 1,_ => exact h.h1
 | 2,_ => exact get_u h.len (by omega)
 | 3,_ => exact get_u h.len (by omega)
 | 4,_ => exact get_u h.len (by omega)
 | 5,_ => exact get_u h.len (by omega)
 | 6,_ => exact h.h6
structure IsSL (tm:List MV) (t7:Int) (len:Nat) (i:Int):Prop where
 ln:tm.length = 44
 h0:tm[0]? = some (.ptr 0 0)
 h7:tm[7]? = some (iv t7)
 h24:tm[24]? = some (.va 4 0 len 4)
 h25:tm[25]? = some (iv len)
 h26:tm[26]? = some (iv i)
theorem IsSL.eq {tm:List MV} {t7:Int} {len:Nat} {i:Int} (h:IsSL tm t7 len i):∃ u,tm = SL u t7 len i:=by
 refine ⟨fun i => tm.getD i (.val undef),list_eq (p:=[.ptr 0 0,_,_,_,_,_,_,iv t7,_,_,_,_,_,_,_,_,_,_,_,_,_,_,_,_,.va 4 0 len 4,iv len,iv i]) h.ln (by simp) (fun i hi => ?_)⟩
 match i,hi with
 | 0,_ => exact h.h0
 | 1,_ => exact get_u h.ln (by omega)
 | 2,_ => exact get_u h.ln (by omega)
 | 3,_ => exact get_u h.ln (by omega)
 | 4,_ => exact get_u h.ln (by omega)
 | 5,_ => exact get_u h.ln (by omega)
 | 6,_ => exact get_u h.ln (by omega)
 | 7,_ => exact h.h7
 | 8,_ => exact get_u h.ln (by omega)
 | 9,_ => exact get_u h.ln (by omega)
 | 10,_ => exact get_u h.ln (by omega)
 | 11,_ => exact get_u h.ln (by omega)
 | 12,_ => exact get_u h.ln (by omega)
 | 13,_ => exact get_u h.ln (by omega)
 | 14,_ => exact get_u h.ln (by omega)
 | 15,_ => exact get_u h.ln (by omega)
 | 16,_ => exact get_u h.ln (by omega)
 | 17,_ => exact get_u h.ln (by omega)
 | 18,_ => exact get_u h.ln (by omega)
 | 19,_ => exact get_u h.ln (by omega)
 | 20,_ => exact get_u h.ln (by omega)
 | 21,_ => exact get_u h.ln (by omega)
 | 22,_ => exact get_u h.ln (by omega)
 | 23,_ => exact get_u h.ln (by omega)
 | 24,_ => exact h.h24
 | 25,_ => exact h.h25
 | 26,_ => exact h.h26
 | i + 27,hi => exact absurd hi (by simp)
def qR (X Y S W H:Int) (r:List Int):PPT.S37:=meetL (r.getD 0 0) (r.getD 1 0) (r.getD 2 0) (r.getD 3 0) X Y (w6 (X + w6 (W * S))) (w6 (Y + w6 (H * S)))
def showS (X Y S W H:Int) (it:List (List Int)) (st:List (List Int) × Int) (r:List Int):List (List Int) × Int :=
 bif empL (qR X Y S W H r).f0 (qR X Y S W H r).f1 (qR X Y S W H r).f2 (qR X Y S W H r).f3 then st
 else (paintC X Y S W H it (qR X Y S W H r).f0 (qR X Y S W H r).f1 (qR X Y S W H r).f2 (qR X Y S W H r).f3 st.1,w6 (st.2 + paintN X Y S W H (qR X Y S W H r).f0 (qR X Y S W H r).f1 (qR X Y S W H r).f2 (qR X Y S W H r).f3))
def showR (X Y S W H:Int) (it:List (List Int)) (rs:List (List Int)) (st:List (List Int) × Int):List (List Int) × Int:=rs.foldl (showS X Y S W H it) st
theorem showS_len (X Y S W H:Int) (it:List (List Int)) (st:List (List Int) × Int) (r:List Int):(showS X Y S W H it st r).1.length = st.1.length:=by
 unfold showS
 cases empL (qR X Y S W H r).f0 (qR X Y S W H r).f1 (qR X Y S W H r).f2 (qR X Y S W H r).f3 with
 | true => rfl
 | false => exact paintC_len _ _ _ _ _ _ _ _ _ _ _
theorem showR_len (X Y S W H:Int) (it:List (List Int)) (rs:List (List Int)):∀ st:List (List Int) × Int,(showR X Y S W H it rs st).1.length = st.1.length:=by
 induction rs with
 | nil => intro st; rfl
 | cons r rs ih => intro st; exact (ih _).trans (showS_len _ _ _ _ _ _ _ _)
section
variable (X Y S W H:Int) (n nc:Nat) (cs it rs old new:List (List Int))
def ML (cs:List (List Int)):Mem:=MS X Y S W H 5 n nc cs [some ⟨.rrecs (i64s 15) old,39⟩,some ⟨.rrecs (i64s 15) new,39⟩,some ⟨.recs (i64s 4) rs,37⟩,some ⟨.recs (i64s 15) it,39⟩]
theorem ML_inb (U:Nat → Bool) (h1:U 1 = true) (h5:U 5 = true):∀ (b:Nat) (k:Blk),(ML X Y S W H n nc it rs old new cs)[b]? = some (some k) → inbL U k.cells = true:=by
 intro b k hk
 match b,hk with
 | 0,hk =>
  have e:k = Bd X Y S W H 5 n nc:=by injection hk with hk; injection hk with hk; exact hk.symm
  subst e
  show (true && _) = true
  simp [inbL,inb,h1,h5]
 | 1,hk =>
  have e:k = ⟨.recs (i64s 1) cs,2⟩:=by injection hk with hk; injection hk with hk; exact hk.symm
  subst e
  exact inb_recs _ _ _
 | 2,hk =>
  have e:k = ⟨.rrecs (i64s 15) old,39⟩:=by injection hk with hk; injection hk with hk; exact hk.symm
  subst e
  exact inb_recs _ _ _
 | 3,hk =>
  have e:k = ⟨.rrecs (i64s 15) new,39⟩:=by injection hk with hk; injection hk with hk; exact hk.symm
  subst e
  exact inb_recs _ _ _
 | 4,hk =>
  have e:k = ⟨.recs (i64s 4) rs,37⟩:=by injection hk with hk; injection hk with hk; exact hk.symm
  subst e
  exact inb_recs _ _ _
 | 5,hk =>
  have e:k = ⟨.recs (i64s 15) it,39⟩:=by injection hk with hk; injection hk with hk; exact hk.symm
  subst e
  exact inb_recs _ _ _
 | b + 6,hk => simp [ML,MS] at hk
theorem round (u:Nat → MV) (t7:Int) (len:Nat) (i:Int) (hlen:rs.length = len) (h0:0 ≤ i) (hi:i < len) (hbig:len ≤ 1000000)
  (hok:empL (qR X Y S W H (rs.getD i.toNat [])).f0 (qR X Y S W H (rs.getD i.toNat [])).f1 (qR X Y S W H (rs.getD i.toNat [])).f2 (qR X Y S W H (rs.getD i.toNat [])).f3 = false →
   paintOk X Y S W H n nc cs it (qR X Y S W H (rs.getD i.toNat [])).f0 (qR X Y S W H (rs.getD i.toNat [])).f1 (qR X Y S W H (rs.getD i.toNat [])).f2 (qR X Y S W H (rs.getD i.toNat [])).f3 = true) :
  ∃ tm' junk,IsSL tm' (showS X Y S W H it (cs,t7) (rs.getD i.toNat [])).2 len (i + 1) ∧ ∀ kk:KE,xcode Try.prog E A9 1 (cut c36 [1,1,1,1,1,0,1,0,0]) (SL u t7 len i) (ML X Y S W H n nc it rs old new cs) kk =
   kk .normal tm' (ML X Y S W H n nc it rs old new (showS X Y S W H it (cs,t7) (rs.getD i.toNat [])).1 ++ junk):=by
 have c1:decide (i < (len:Int)) = true:=decide_eq_true hi
 have c2:decide (0 ≤ i ∧ i < (len:Int)) = true:=decide_eq_true ⟨h0,hi⟩
 have c3:decide (i.toNat < rs.length) = true:=decide_eq_true (by omega)
 have c4:IntKind.wrap IntKind.i64 (i + 1) = i + 1:=w6_id (by omega) (by omega)
 generalize hr:rs.getD i.toNat [] = r at *
 cases he:empL (qR X Y S W H r).f0 (qR X Y S W H r).f1 (qR X Y S W H r).f2 (qR X Y S W H r).f3 with
 | false =>
  have hp:=hok he
  have e1:showS X Y S W H it (cs,t7) r = (paintC X Y S W H it (qR X Y S W H r).f0 (qR X Y S W H r).f1 (qR X Y S W H r).f2 (qR X Y S W H r).f3 cs,w6 (t7 + paintN X Y S W H (qR X Y S W H r).f0 (qR X Y S W H r).f1 (qR X Y S W H r).f2 (qR X Y S W H r).f3)):=by
   unfold showS; rw [he]; rfl
  rw [e1]
  unfold qR at he hp ⊢
  apply Exists.intro
  apply Exists.intro
  refine (fun {p q:Prop} (h:q ∧ p) => (⟨h.2,h.1⟩:p ∧ q)) ⟨fun kk => ?_,?_⟩
  ·unfold ML
   rw [s6]
   simp only [Nat.zero_add,Nat.reduceAdd,hr,c1,c2,c3,c4,he,hp,cond_true,cond_false,Bool.not_false]
   rfl
  ·exact ⟨rfl,rfl,rfl,rfl,rfl,rfl⟩
 | true =>
  have e1:showS X Y S W H it (cs,t7) r = (cs,t7):=by
   unfold showS; rw [he]; rfl
  rw [e1]
  unfold qR at he
  apply Exists.intro
  apply Exists.intro
  refine (fun {p q:Prop} (h:q ∧ p) => (⟨h.2,h.1⟩:p ∧ q)) ⟨fun kk => ?_,?_⟩
  ·unfold ML
   rw [s6]
   simp only [Nat.zero_add,Nat.reduceAdd,hr,c1,c2,c3,c4,he,cond_true,cond_false,Bool.not_true]
   rfl
  ·exact ⟨rfl,rfl,rfl,rfl,rfl,rfl⟩
end
end Go.Proofs.Ytppklhfiajjhmaa.Ti
end
section
namespace Go.Proofs.Ytppklhfiajjhmaa.Ti
open Go Go.RowKit Go.Proofs.Ytppklhfiajjhmaa.Y
set_option linter.unusedVariables false
set_option linter.unusedSimpArgs false
section
variable (X Y S W H:Int) (n nc:Nat) (cs it rs old new:List (List Int))
def kL:Nat → Bool:=fun i => i == 0 || i == 7 || i == 24 || i == 25 || i == 26
theorem show_loop (len:Nat) (hlen:rs.length = len) (hbig:len ≤ 1000000) (hcs:cs.length = nc)
  (hok:∀ r ∈ rs,∀ cs:List (List Int),cs.length = nc → empL (qR X Y S W H r).f0 (qR X Y S W H r).f1 (qR X Y S W H r).f2 (qR X Y S W H r).f3 = false →
   paintOk X Y S W H n nc cs it (qR X Y S W H r).f0 (qR X Y S W H r).f1 (qR X Y S W H r).f2 (qR X Y S W H r).f3 = true) {tm:List MV} (h:IsSL tm 0 len 0) :
  XN Try.prog A9.env 4 (cut c36 [1,1,1,1,1,0,1,0]) tm (ML X Y S W H n nc it rs old new cs) (fun e tm' m' => e = .exit 0 ∧ IsSL tm' (showR X Y S W H it rs (cs,0)).2 len len ∧ ∃ junk,m' = ML X Y S W H n nc it rs old new (showR X Y S W H it rs (cs,0)).1 ++ junk):=by
 have e:cut c36 [1,1,1,1,1,0,1,0] = .loop (cut c36 [1,1,1,1,1,0,1,0,0]):=by kernel_rfl
 refine XN.cast e ?_
 refine XN.loop (fun j tm m => ∃ (i:Int) (cs':List (List Int)) (t7:Int) (junk:Mem),IsSL tm t7 len i ∧ m = ML X Y S W H n nc it rs old new cs' ++ junk ∧ 0 ≤ i ∧ i ≤ len ∧ cs'.length = nc ∧ j = (len - i).toNat ∧
  showR X Y S W H it (rs.drop i.toNat) (cs',t7) = showR X Y S W H it rs (cs,0)) ?_ (j:=((len:Int) - 0).toNat) ⟨0,cs,0,[],h,by simp,Int.le_refl _,by omega,hcs,rfl,rfl⟩
 rintro j tm m ⟨i,cs',t7,junk,g1,rfl,g2,g3,g4,rfl,g5⟩
 refine XN.drop (K:=kL) (by simp [ML,MS]) ?_ ?_ ?_
 ·intro k x hk hx
  unfold kL at hk
  simp only [Bool.or_eq_true,beq_iff_eq] at hk
  rcases hk with (((rfl | rfl) | rfl) | rfl) | rfl
  ·rw [g1.h0] at hx; cases hx; rfl
  ·rw [g1.h7] at hx; cases hx; rfl
  ·rw [g1.h24] at hx; cases hx; simp [inb,ML,MS]
  ·rw [g1.h25] at hx; cases hx; rfl
  ·rw [g1.h26] at hx; cases hx; rfl
 ·exact ML_inb X Y S W H n nc cs' it rs old new _ rfl rfl
 intro tm' hl hk
 have g1':IsSL tm' t7 len i:=⟨hl.trans g1.ln,(hk 0 rfl).trans g1.h0,(hk 7 rfl).trans g1.h7,(hk 24 rfl).trans g1.h24,(hk 25 rfl).trans g1.h25,(hk 26 rfl).trans g1.h26⟩
 obtain ⟨u,rfl⟩:=g1'.eq
 by_cases hlt:i < len
 ·have hil:i.toNat < rs.length:=by omega
  have hmem:rs.getD i.toNat [] ∈ rs:=by
   rw [List.getD_eq_getElem?_getD,List.getElem?_eq_getElem hil]
   exact List.getElem_mem hil
  obtain ⟨tm2,junk2,t1,t2⟩:=round X Y S W H n nc cs' it rs old new u t7 len i hlen g2 hlt hbig (hok _ hmem cs' g4)
  refine XN.of_x E_ok A9_ok mixed t2 ?_
  refine ⟨((len:Int) - (i + 1)).toNat,by omega,i + 1,_,_,junk2,t1,rfl,by omega,by omega,by rw [showS_len]; exact g4,rfl,?_⟩
  rw [← g5]
  have ed:rs.drop i.toNat = rs.getD i.toNat [] :: rs.drop (i + 1).toNat:=by
   rw [List.drop_eq_getElem_cons hil]
   congr 1
   ·rw [List.getD_eq_getElem?_getD,List.getElem?_eq_getElem hil]; rfl
   ·congr 1; omega
  rw [ed]
  rfl
 ·have c1:decide (i < (len:Int)) = false:=decide_eq_false hlt
  have hi:i = len:=by omega
  subst hi
  have hx:∀ kk:KE,xcode Try.prog E A9 1 (cut c36 [1,1,1,1,1,0,1,0,0]) (SL u t7 len len) (ML X Y S W H n nc it rs old new cs') kk = kk (.exit 0) (SL u t7 len len |>.set 27 (.val (.bool false))) (ML X Y S W H n nc it rs old new cs'):=by
   intro kk
   unfold ML
   rw [s6]
   simp only [c1,cond_false]
   rfl
  refine XN.of_x E_ok A9_ok mixed hx ?_
  have e2:rs.drop ((len:Int)).toNat = []:=List.drop_eq_nil_of_le (by omega)
  rw [e2] at g5
  have e3:(cs',t7) = showR X Y S W H it rs (cs,0):=g5
  rw [← e3]
  exact ⟨rfl,⟨rfl,rfl,rfl,rfl,rfl,rfl⟩,[],by simp⟩
def MS0 (n0:Nat):Mem:=MS X Y S W H 2 n0 nc cs [some ⟨.rrecs (i64s 15) old,39⟩,some ⟨.rrecs (i64s 15) new,39⟩]
theorem c36_eq:c36 = .seq (cut c36 [0]) (.seq (cut c36 [1,0]) (.seq (cut c36 [1,1,0]) (.seq (cut c36 [1,1,1,0]) (.seq (cut c36 [1,1,1,1,0]) (.seq (.seq (cut c36 [1,1,1,1,1,0,0]) (.block 0 (cut c36 [1,1,1,1,1,0,1,0]))) (cut c36 [1,1,1,1,1,1])))))):=by kernel_rfl
end
set_option maxRecDepth 100000 in
theorem s5 (u:Nat → MV) (n1:Nat) (rs:List (List Int)) (X Y S W H:Int) (n nc:Nat) (cs it:List (List Int)) (o2 o3 o4:Option Blk) (kk:KE):xcode Try.prog E A9 1 (cut c36 [1,1,1,1,1,0,0]) ((SH u n1 (.va 4 0 rs.length 4)).set 7 (iv 0)) (MS X Y S W H 5 n nc cs [o2,o3,o4,some ⟨.recs (i64s 15) it,39⟩]) kk =
  kk XE.normal [MV.ptr 0 0,MV.va 3 0 n1 15,u 2,u 3,u 4,u 5,MV.va 4 0 (List.length rs) 4,iv 0,u 8,u 9,u 10,u 11,u 12,u 13,u 14,u 15,u 16,u 17,u 18,u 19,u 20,u 21,u 22,u 23,MV.va 4 0 (List.length rs) 4,iv (↑(List.length rs):Int),iv 0,u 27,u 28,u 29,u 30,u 31,u 32,u 33,u 34,u 35,u 36,u 37,u 38,u 39,u 40,u 41,u 42,u 43] [some { row:=Row.lst [iv X,iv Y,iv S,iv W,iv H,MV.va 5 0 n 15,MV.va 1 0 nc 1],ty:=90 },some { row:=Row.recs [some IntKind.i64] cs,ty:=2 },o2,o3,o4,some { row:=Row.recs [some IntKind.i64,some IntKind.i64,some IntKind.i64,some IntKind.i64,some IntKind.i64,some IntKind.i64,some IntKind.i64,some IntKind.i64,some IntKind.i64,some IntKind.i64,some IntKind.i64,some IntKind.i64,some IntKind.i64,some IntKind.i64,some IntKind.i64] it,ty:=39 }]:=by kernel_rfl
section
variable (X Y S W H:Int) (nc:Nat) (cs old new:List (List Int))
theorem show_x (n0 n1:Nat) (h0:old.length = n0) (h1:new.length = n1) (hs:old.length + new.length ≤ 90) (hcs:cs.length = nc) (hbig:(harmL old new).length ≤ 1000000)
  (hok:∀ r ∈ harmL old new,∀ cs:List (List Int),cs.length = nc → empL (qR X Y S W H r).f0 (qR X Y S W H r).f1 (qR X Y S W H r).f2 (qR X Y S W H r).f3 = false →
   paintOk X Y S W H n1 nc cs new (qR X Y S W H r).f0 (qR X Y S W H r).f1 (qR X Y S W H r).f2 (qR X Y S W H r).f3 = true) :
  XF Try.prog A9.env 36 [.ptr 0 0,.va 3 0 n1 15] (MS0 X Y S W H nc cs old new n0) (fun v m' =>
   v = .tup [iv (showR X Y S W H new (harmL old new) (cs,0)).2,iv 0] ∧ m' = ML X Y S W H n1 nc new (harmL old new) old new (showR X Y S W H new (harmL old new) (cs,0)).1):=by
 subst h1
 have c1:(old.length == n0) = true:=by simp [h0]
 have c2:(new.length == new.length) = true:=by simp
 have c3:decide (old.length + new.length ≤ 90) = true:=decide_eq_true hs
 have c4:decide (new.length ≤ 1000000) = true:=decide_eq_true (by omega)
 refine XF.forget (XF.of_codeN Try.func36 (c:=c36) (by kernel_rfl) ?_)
 refine XN.cast c36_eq ?_
 -- the beginning
 obtain ⟨tm0,a1,a2⟩:∃ tm',IsSH tm' new.length (.val undef) ∧ ∀ kk:KE,xcode Try.prog E A9 1 (cut c36 [0]) ([.ptr 0 0,.va 3 0 new.length 15] ++ List.replicate 42 (.val undef)) (MS0 X Y S W H nc cs old new n0) kk = kk .normal tm' (MS0 X Y S W H nc cs old new n0):=by
  refine And_swap ?_
  apply Exists.intro
  refine ⟨fun kk => ?_,?_⟩
  ·rw [s0]
  ·exact ⟨rfl,rfl,rfl,rfl⟩
 refine XN.seq_x E_ok A9_ok mixed a2 ?_
 obtain ⟨u0,rfl⟩:=a1.eq
 obtain ⟨tm1,b1,b2⟩:∃ tm',IsSH tm' new.length (.val undef) ∧ ∀ kk:KE,xcode Try.prog E A9 1 (cut c36 [1,0]) (SH u0 new.length (.val undef)) (MS0 X Y S W H nc cs old new n0) kk = kk .normal tm' (MS0 X Y S W H nc cs old new n0):=by
  refine And_swap ?_
  apply Exists.intro
  refine ⟨fun kk => ?_,?_⟩
  ·rw [s1]
  ·exact ⟨rfl,rfl,rfl,rfl⟩
 refine XN.seq_x E_ok A9_ok mixed b2 ?_
 obtain ⟨u1,rfl⟩:=b1.eq
 obtain ⟨tm2,d1,d2⟩:∃ tm',IsSH tm' new.length (.va 4 0 (harmL old new).length 4) ∧ ∀ kk:KE,xcode Try.prog E A9 1 (cut c36 [1,1,0]) (SH u1 new.length (.val undef)) (MS0 X Y S W H nc cs old new n0) kk =
   kk .normal tm' (MS X Y S W H 2 n0 nc cs [some ⟨.rrecs (i64s 15) old,39⟩,some ⟨.rrecs (i64s 15) new,39⟩,some ⟨.recs (i64s 4) (harmL old new),37⟩]):=by
  refine And_swap ?_
  apply Exists.intro
  refine ⟨fun kk => ?_,?_⟩
  ·unfold MS0
   rw [s2]
   simp only [c1,c2,c3,cond_true]
   rfl
  ·exact ⟨rfl,rfl,rfl,rfl⟩
 refine XN.seq_x E_ok A9_ok mixed d2 ?_
 obtain ⟨u2,rfl⟩:=d1.eq
 obtain ⟨tm3,f1,f2⟩:∃ tm',IsSH tm' new.length (.va 4 0 (harmL old new).length 4) ∧ ∀ kk:KE,xcode Try.prog E A9 1 (cut c36 [1,1,1,0]) (SH u2 new.length (.va 4 0 (harmL old new).length 4)) (MS X Y S W H 2 n0 nc cs [some ⟨.rrecs (i64s 15) old,39⟩,some ⟨.rrecs (i64s 15) new,39⟩,some ⟨.recs (i64s 4) (harmL old new),37⟩]) kk =
   kk .normal tm' (ML X Y S W H new.length nc new (harmL old new) old new cs):=by
  refine And_swap ?_
  apply Exists.intro
  refine ⟨fun kk => ?_,?_⟩
  ·rw [s3]
   simp only [c2,c4,cond_true]
   rfl
  ·exact ⟨rfl,rfl,rfl,rfl⟩
 refine XN.seq_x E_ok A9_ok mixed f2 ?_
 obtain ⟨u3,rfl⟩:=f1.eq
 have k2:∀ kk:KE,xcode Try.prog E A9 1 (cut c36 [1,1,1,1,0]) (SH u3 new.length (.va 4 0 (harmL old new).length 4)) (ML X Y S W H new.length nc new (harmL old new) old new cs) kk = kk .normal ((SH u3 new.length (.va 4 0 (harmL old new).length 4)).set 7 (iv 0)) (ML X Y S W H new.length nc new (harmL old new) old new cs):=by
  intro kk
  rw [s4]
  rfl
 refine XN.seq_x E_ok A9_ok mixed k2 ?_
 refine XN.seq ?_
 obtain ⟨tm5,l1,l2⟩:∃ tm',IsSL tm' 0 (harmL old new).length 0 ∧ ∀ kk:KE,xcode Try.prog E A9 1 (cut c36 [1,1,1,1,1,0,0]) ((SH u3 new.length (.va 4 0 (harmL old new).length 4)).set 7 (iv 0)) (ML X Y S W H new.length nc new (harmL old new) old new cs) kk = kk .normal tm' (ML X Y S W H new.length nc new (harmL old new) old new cs):=by
  refine And_swap ?_
  apply Exists.intro
  refine ⟨fun kk => ?_,?_⟩
  ·unfold ML
   rw [s5]
   rfl
  ·exact ⟨rfl,rfl,rfl,rfl,rfl,rfl⟩
 refine XN.seq_x E_ok A9_ok mixed l2 ?_
 refine XN.block ?_
 have hl:=show_loop X Y S W H new.length nc cs new (harmL old new) old new _ rfl hbig hcs hok l1
 refine XN.mono hl ?_
 rintro e tm6 m6 ⟨rfl,g1,junk,rfl⟩
 simp only [if_true]
 obtain ⟨u6,rfl⟩:=g1.eq
 obtain ⟨tm7,p1,p2⟩:∃ tm',(∀ m:Mem,xres Try.prog tm' m Try.f36.results.toList = some [iv (showR X Y S W H new (harmL old new) (cs,0)).2,iv 0]) ∧ ∀ kk:KE,xcode Try.prog E A9 1 (cut c36 [1,1,1,1,1,1]) (SL u6 (showR X Y S W H new (harmL old new) (cs,0)).2 (harmL old new).length (harmL old new).length) (ML X Y S W H new.length nc new (harmL old new) old new (showR X Y S W H new (harmL old new) (cs,0)).1 ++ junk) kk = kk .ret tm' (ML X Y S W H new.length nc new (harmL old new) old new (showR X Y S W H new (harmL old new) (cs,0)).1 ++ junk):=by
  refine And_swap ?_
  apply Exists.intro
  refine ⟨fun kk => ?_,?_⟩
  ·rw [s7]
  ·intro m; rfl
 refine XN.of_x E_ok A9_ok mixed p2 ?_
 exact ⟨_,p1 _,_,junk,rfl,by simp [ML,MS,MS0],rfl,ML_inb X Y S W H new.length nc _ new (harmL old new) old new _ (by simp [ML,MS]) (by simp [ML,MS]),rfl,rfl⟩
end
end Go.Proofs.Ytppklhfiajjhmaa.Ti
end
section
namespace Go.Proofs.Ytppklhfiajjhmaa.Ti
open Go Go.RowKit Go.Proofs.Ytppklhfiajjhmaa.Y Go.Proofs.Ytppklhfiajjhmaa.PPT
set_option linter.unusedVariables false
set_option linter.unusedSimpArgs false
theorem colC_eq (it:List (List Int)) (x y:Int):colC it x y = Pure.colr (it.map dec39) x y:=by
 unfold colC Pure.colr ownB ownN
 cases h:Pure.ownr (it.map dec39) x y with
 | none => rfl
 | some m =>
  have hm:=Pure.ownr_lt h
  rw [List.length_map] at hm
  simp only [Option.isSome_some,cond_true,Int.toNat_natCast]
  rw [List.getD_eq_getElem?_getD (l:=it.map dec39),List.getElem?_map,List.getD_eq_getElem?_getD (l:=it),List.getElem?_eq_getElem hm]
  rfl
theorem ix_inj {W r c r' c':Nat} (hc:c < W) (hc':c' < W) (h:r * W + c = r' * W + c'):r = r' ∧ c = c':=by
 have h1:(r * W + c) / W = r:=by rw [Nat.mul_comm,Nat.mul_add_div (by omega),Nat.div_eq_of_lt hc,Nat.add_zero]
 have h2:(r' * W + c') / W = r':=by rw [Nat.mul_comm,Nat.mul_add_div (by omega),Nat.div_eq_of_lt hc',Nat.add_zero]
 have h3:(r * W + c) % W = c:=by rw [Nat.mul_comm,Nat.mul_add_mod,Nat.mod_eq_of_lt hc]
 have h4:(r' * W + c') % W = c':=by rw [Nat.mul_comm,Nat.mul_add_mod,Nat.mod_eq_of_lt hc']
 rw [h] at h1 h3
 exact ⟨h1.symm.trans h2,h3.symm.trans h4⟩
theorem toNat_ix {row W:Nat} {k:Int} (hk:0 ≤ k):((row:Int) * (W:Int) + k).toNat = row * W + k.toNat:=by
 have:(row:Int) * (W:Int) = ((row * W:Nat):Int):=by push_cast; rfl
 rw [this]; omega
theorem rowP_get (it:List (List Int)) (X Y S:Int) (W row:Nat) (j:Nat):∀ (d:Nat) (k:Int) (cs:List (List Int)),0 ≤ k → j < cs.length →
  (rowP it X Y S W row d k cs)[j]? = if row * W + k.toNat ≤ j ∧ j < row * W + k.toNat + d then some [colC it (w6 (X + w6 ((((j - row * W:Nat)):Int) * S))) (w6 (Y + w6 ((row:Int) * S)))] else cs[j]?
 | 0,k,cs,hk,hj => by
  rw [rowP,if_neg (by omega)]
 | d + 1,k,cs,hk,hj => by
  rw [rowP,rowP_get it X Y S W row j d (k + 1) _ (by omega) (by simpa using hj),toNat_ix hk]
  have e1:(k + 1).toNat = k.toNat + 1:=by omega
  rw [e1]
  by_cases h1:row * W + (k.toNat + 1) ≤ j ∧ j < row * W + (k.toNat + 1) + d
  ·rw [if_pos h1,if_pos (by omega)]
  ·rw [if_neg h1]
   by_cases h2:j = row * W + k.toNat
   ·subst h2
    rw [if_pos (by omega),List.getElem?_set_self hj]
    have:((row * W + k.toNat - row * W:Nat):Int) = k:=by omega
    rw [this]
   ·rw [if_neg (by omega),List.getElem?_set_ne (fun e => h2 e.symm)]
theorem gridP_get (it:List (List Int)) (X Y S:Int) (W:Nat) (left right:Int) (hl:0 ≤ left) (hr:right ≤ W) (r c:Nat) (hc:c < W):∀ (d:Nat) (row:Nat) (cs:List (List Int)),r * W + c < cs.length →
  (gridP it X Y S W left right d row cs)[r * W + c]? = if row ≤ r ∧ r < row + d ∧ left ≤ c ∧ (c:Int) < right then some [colC it (w6 (X + w6 ((c:Int) * S))) (w6 (Y + w6 ((r:Int) * S)))] else cs[r * W + c]?
 | 0,row,cs,hj => by rw [gridP,if_neg (by omega)]
 | d + 1,row,cs,hj => by
  have e1:(row:Int) + 1 = ((row + 1:Nat):Int):=by omega
  rw [gridP,e1,gridP_get it X Y S W left right hl hr r c hc d (row + 1) _ (by rw [rowP_len]; exact hj),rowP_get it X Y S W row (r * W + c) _ left cs hl hj]
  by_cases h1:row + 1 ≤ r ∧ r < row + 1 + d ∧ left ≤ c ∧ (c:Int) < right
  ·rw [if_pos h1,if_pos (by omega)]
  ·rw [if_neg h1]
   by_cases h2:r = row ∧ left ≤ c ∧ (c:Int) < right
   ·obtain ⟨rfl,h3,h4⟩:=h2
    rw [if_pos (by omega),if_pos (by omega)]
    have:r * W + c - r * W = c:=by omega
    rw [this]
   ·rw [if_neg,if_neg (by omega)]
    rintro ⟨a,b⟩
    have e:r * W + c = row * W + (r * W + c - row * W):=by omega
    obtain ⟨e1,e2⟩:=ix_inj hc (by omega) e
    subst e1
    omega
theorem firstI_le {fr x S:Int} {c:Nat} (hS:1 ≤ S) (hS2:S ≤ 1099511627776) (hfr:-1099511627776 ≤ fr ∧ fr ≤ 1099511627776) (hx:x ≤ fr + 4503599627370496):0 ≤ firstI fr x S ∧ (firstI fr x S ≤ c ↔ x ≤ fr + c * S):=by
 unfold firstI
 have hcS:0 ≤ (c:Int) * S:=Int.mul_nonneg (by omega) (by omega)
 by_cases h:x ≤ fr
 ·rw [decide_eq_true h]
  simp only [cond_true]
  exact ⟨Int.le_refl _,by constructor <;> intro _ <;> omega⟩
 ·rw [decide_eq_false h]
  simp only [cond_false]
  have w1:IntKind.wrap .i64 (x - fr) = x - fr:=w6_id (by omega) (by omega)
  have w2:IntKind.wrap .i64 (x - fr + S) = x - fr + S:=w6_id (by omega) (by omega)
  have w3:IntKind.wrap .i64 (x - fr + S - 1) = x - fr + S - 1:=w6_id (by omega) (by omega)
  rw [w1,w2,w3,Int.tdiv_eq_ediv_of_nonneg (by omega)]
  have q0:0 ≤ (x - fr + S - 1) / S:=Int.ediv_nonneg (by omega) (by omega)
  have q1:(x - fr + S - 1) / S ≤ x - fr + S - 1:=Int.ediv_le_self _ (by omega)
  rw [show IntKind.wrap IntKind.i64 ((x - fr + S - 1) / S) = (x - fr + S - 1) / S from w6_id (by omega) (by omega)]
  refine ⟨q0,?_⟩
  constructor
  ·intro h1
   have h2:(x - fr + S - 1) / S < (c:Int) + 1:=by omega
   have h3:=(Int.ediv_lt_iff_lt_mul (show (0:Int) < S by omega)).1 h2
   rw [Int.add_mul,Int.one_mul] at h3
   omega
  ·intro h1
   have h2:(x - fr + S - 1) / S < (c:Int) + 1:=(Int.ediv_lt_iff_lt_mul (show (0:Int) < S by omega)).2 (by rw [Int.add_mul,Int.one_mul]; omega)
   omega
theorem lo_ok {fr x0 x1 S:Int} {W c:Nat} (hS:1 ≤ S) (hS2:S ≤ 1099511627776) (hfr:-1099511627776 ≤ fr ∧ fr ≤ 1099511627776) (h0:x0 ≤ fr + 4503599627370496) (h1:x1 ≤ fr + 4503599627370496) (hc:c < W) :
  (loI fr x0 S W ≤ c ∧ (c:Int) < hiI fr x0 x1 S W) ↔ (x0 ≤ fr + c * S ∧ fr + c * S < x1):=by
 obtain ⟨a1,a2⟩:=firstI_le (c:=c) hS hS2 hfr h0
 obtain ⟨b1,b2⟩:=firstI_le (c:=c) hS hS2 hfr h1
 unfold loI hiI minI maxI
 have b3:¬ (firstI fr x1 S ≤ c) ↔ fr + c * S < x1:=by rw [b2]; omega
 rw [← a2,← b3]
 constructor
 ·rintro ⟨g1,g2⟩
  repeat' split at g1
  all_goals repeat' split at g2
  all_goals constructor <;> omega
 ·rintro ⟨g1,g2⟩
  constructor
  ·split <;> omega
  ·repeat' split
   all_goals omega
theorem lo_nn {fr x0 S:Int} {W:Nat} (hS:1 ≤ S) (hS2:S ≤ 1099511627776) (hfr:-1099511627776 ≤ fr ∧ fr ≤ 1099511627776) (h0:x0 ≤ fr + 4503599627370496):0 ≤ loI fr x0 S W:=by
 obtain ⟨a1,_⟩:=firstI_le (c:=0) hS hS2 hfr h0
 unfold loI minI
 split <;> omega
theorem grid_mul {c W:Nat} {S:Int} (hc:c ≤ W) (hS:1 ≤ S) (hS2:S ≤ 1099511627776) (hW:W ≤ 4096):0 ≤ (c:Int) * S ∧ (c:Int) * S ≤ (W:Int) * S ∧ (W:Int) * S ≤ 4503599627370496:=by
 refine ⟨Int.mul_nonneg (by omega) (by omega),Int.mul_le_mul_of_nonneg_right (by omega) (by omega),?_⟩
 have h1:(W:Int) * S ≤ 4096 * S:=Int.mul_le_mul_of_nonneg_right (by omega) (by omega)
 omega
section
variable {X Y S:Int} {W H:Nat} (hG:Pure.okG X Y S (W:Int) (H:Int))
include hG
theorem all_eq:w6 (X + w6 ((W:Int) * S)) = X + W * S ∧ w6 (Y + w6 ((H:Int) * S)) = Y + H * S:=by
 obtain ⟨g1,g2,g3,g4,g5,g6,g7,g8,g9,g10,g11⟩:=hG
 have h1:=grid_mul (c:=0) (W:=W) (by omega) g6 g7 (by omega)
 have h2:=grid_mul (c:=0) (W:=H) (by omega) g6 g7 (by omega)
 constructor
 ·rw [w6_id (n:=(W:Int) * S) (by omega) (by omega),w6_id (by omega) (by omega)]
 ·rw [w6_id (n:=(H:Int) * S) (by omega) (by omega),w6_id (by omega) (by omega)]
theorem pt_eq {c r:Nat} (hc:c < W) (hr:r < H):w6 (X + w6 ((c:Int) * S)) = X + c * S ∧ w6 (Y + w6 ((r:Int) * S)) = Y + r * S:=by
 obtain ⟨g1,g2,g3,g4,g5,g6,g7,g8,g9,g10,g11⟩:=hG
 have h1:=grid_mul (c:=c) (W:=W) (by omega) g6 g7 (by omega)
 have h2:=grid_mul (c:=r) (W:=H) (by omega) g6 g7 (by omega)
 constructor
 ·rw [w6_id (n:=(c:Int) * S) (by omega) (by omega),w6_id (by omega) (by omega)]
 ·rw [w6_id (n:=(r:Int) * S) (by omega) (by omega),w6_id (by omega) (by omega)]
theorem q_in {q:List Int}:X ≤ (qR X Y S W H q).f0 ∧ Y ≤ (qR X Y S W H q).f1 ∧ (qR X Y S W H q).f2 ≤ X + W * S ∧ (qR X Y S W H q).f3 ≤ Y + H * S ∨ Pure.emp (qR X Y S W H q):=by
 by_cases he:Pure.emp (qR X Y S W H q)
 ·exact .inr he
 ·left
  obtain ⟨e1,e2⟩:=all_eq hG
  have hh:∀ x y,Pure.has (qR X Y S W H q) x y → X ≤ x ∧ Y ≤ y ∧ x < X + W * S ∧ y < Y + H * S:=by
   intro x y h
   unfold qR meetL at h
   rw [e1,e2] at h
   have h2:=((Pure.has_meet _ _ _ _).1 h).2
   unfold Pure.has at h2
   simp only at h2
   omega
  have hE:(qR X Y S W H q).f0 < (qR X Y S W H q).f2 ∧ (qR X Y S W H q).f1 < (qR X Y S W H q).f3:=by unfold Pure.emp at he; omega
  have h1:=hh _ _ (show Pure.has (qR X Y S W H q) (qR X Y S W H q).f0 (qR X Y S W H q).f1 from ⟨by omega,by omega,by omega,by omega⟩)
  have h2:=hh _ _ (show Pure.has (qR X Y S W H q) ((qR X Y S W H q).f2 - 1) ((qR X Y S W H q).f3 - 1) from ⟨by omega,by omega,by omega,by omega⟩)
  omega
theorem q_has {q:List Int} {c r:Nat} (hc:c < W) (hr:r < H):Pure.has (qR X Y S W H q) (X + c * S) (Y + r * S) ↔ Pure.has (rI q) (X + c * S) (Y + r * S):=by
 obtain ⟨e1,e2⟩:=all_eq hG
 obtain ⟨g1,g2,g3,g4,g5,g6,g7,g8,g9,g10,g11⟩:=hG
 unfold qR meetL
 rw [e1,e2,Pure.has_meet]
 have h1:(c:Int) * S + S ≤ W * S:=by
  have:=Int.mul_le_mul_of_nonneg_right (show (c:Int) + 1 ≤ W by omega) (show 0 ≤ S by omega)
  rw [Int.add_mul,Int.one_mul] at this; exact this
 have h2:(r:Int) * S + S ≤ H * S:=by
  have:=Int.mul_le_mul_of_nonneg_right (show (r:Int) + 1 ≤ H by omega) (show 0 ≤ S by omega)
  rw [Int.add_mul,Int.one_mul] at this; exact this
 have h3:0 ≤ (c:Int) * S:=Int.mul_nonneg (by omega) (by omega)
 have h4:0 ≤ (r:Int) * S:=Int.mul_nonneg (by omega) (by omega)
 constructor
 ·rintro ⟨h,_⟩; exact h
 ·intro h
  refine ⟨h,?_⟩
  unfold Pure.has
  simp only
  omega
theorem paint_okq {n nc:Nat} {cs it:List (List Int)} {q:List Int} (hn:it.length = n) (hl:it.length ≤ 1000) (hnc:nc = H * W) (hcs:cs.length = nc) (he:empL (qR X Y S W H q).f0 (qR X Y S W H q).f1 (qR X Y S W H q).f2 (qR X Y S W H q).f3 = false) :
  paintOk X Y S W H n nc cs it (qR X Y S W H q).f0 (qR X Y S W H q).f1 (qR X Y S W H q).f2 (qR X Y S W H q).f3 = true:=by
 have hq:=q_in hG (q:=q)
 obtain ⟨g1,g2,g3,g4,g5,g6,g7,g8,g9,g10,g11⟩:=hG
 have he':¬ Pure.emp (qR X Y S W H q):=by unfold empL at he; exact of_decide_eq_false he
 rcases hq with ⟨h1,h2,h3,h4⟩ | h
 ·unfold Pure.emp at he'
  have m1:=grid_mul (c:=0) (W:=W) (by omega) g6 g7 (by omega)
  have m2:=grid_mul (c:=0) (W:=H) (by omega) g6 g7 (by omega)
  have e5:(H:Int) * (W:Int) = ((H * W:Nat):Int):=by push_cast; rfl
  have e6:(W:Int) * (H:Int) = ((H * W:Nat):Int):=by rw [Int.mul_comm]; push_cast; rfl
  have e7:0 < H * W:=Nat.mul_pos (by omega) (by omega)
  unfold paintOk
  refine decide_eq_true ⟨hn,hl,by omega,by omega,by omega,by omega,by omega,hcs,by omega,lo_nn g6 g7 ⟨g8,g9⟩ (by omega),lo_nn g6 g7 ⟨g10,g11⟩ (by omega)⟩
 ·exact absurd h he'
theorem showS_get {it:List (List Int)} {st:List (List Int) × Int} {q:List Int} {c r:Nat} (hc:c < W) (hr:r < H) (hl:st.1.length = H * W) :
  (showS X Y S W H it st q).1[r * W + c]? = if Pure.has (rI q) (X + c * S) (Y + r * S) then some [Pure.colr (it.map dec39) (X + c * S) (Y + r * S)] else st.1[r * W + c]?:=by
 have hj:r * W + c < H * W:=by
  have:(r + 1) * W ≤ H * W:=Nat.mul_le_mul_right _ hr
  rw [Nat.add_mul] at this; omega
 have hq:=q_in hG (q:=q)
 have hqh:=q_has hG (q:=q) hc hr
 obtain ⟨p1,p2⟩:=pt_eq hG hc hr
 obtain ⟨g1,g2,g3,g4,g5,g6,g7,g8,g9,g10,g11⟩:=hG
 unfold showS
 cases he:empL (qR X Y S W H q).f0 (qR X Y S W H q).f1 (qR X Y S W H q).f2 (qR X Y S W H q).f3 with
 | true =>
  simp only [cond_true]
  have he':Pure.emp (qR X Y S W H q):=of_decide_eq_true he
  rw [if_neg]
  rw [← hqh]
  unfold Pure.emp at he'
  unfold Pure.has
  omega
 | false =>
  simp only [cond_false]
  have he':¬ Pure.emp (qR X Y S W H q):=of_decide_eq_false he
  rcases hq with ⟨h1,h2,h3,h4⟩ | h
  ·have he2:=he'
   unfold Pure.emp at he2
   have m1:=grid_mul (c:=0) (W:=W) (by omega) g6 g7 (by omega)
   have m2:=grid_mul (c:=0) (W:=H) (by omega) g6 g7 (by omega)
   unfold paintC
   have t0:0 ≤ loI Y (qR X Y S W H q).f1 S H:=lo_nn g6 g7 ⟨g10,g11⟩ (by omega)
   have et:loI Y (qR X Y S W H q).f1 S H = ((loI Y (qR X Y S W H q).f1 S H).toNat:Int):=by omega
   have hhW:hiI X (qR X Y S W H q).f0 (qR X Y S W H q).f2 S W ≤ W:=by unfold hiI maxI minI; split <;> split <;> omega
   rw [et,gridP_get it X Y S W _ _ (lo_nn g6 g7 ⟨g8,g9⟩ (by omega)) hhW r c hc _ _ _ (by omega),p1,p2,colC_eq]
   have k1:=lo_ok (fr:=X) (x0:=(qR X Y S W H q).f0) (x1:=(qR X Y S W H q).f2) g6 g7 ⟨g8,g9⟩ (by omega) (by omega) hc
   have k2:=lo_ok (fr:=Y) (x0:=(qR X Y S W H q).f1) (x1:=(qR X Y S W H q).f3) g6 g7 ⟨g10,g11⟩ (by omega) (by omega) hr
   by_cases hh:Pure.has (rI q) (X + c * S) (Y + r * S)
   ·rw [if_pos hh,if_pos]
    have hh2:=hqh.2 hh
    unfold Pure.has at hh2
    have a1:=k1.2 ⟨hh2.1,hh2.2.1⟩
    have a2:=k2.2 ⟨hh2.2.2.1,hh2.2.2.2⟩
    omega
   ·rw [if_neg hh,if_neg]
    intro hcon
    apply hh
    rw [← hqh]
    have a1:=k1.1 ⟨by omega,by omega⟩
    have a2:=k2.1 ⟨by omega,by omega⟩
    exact ⟨a1.1,a1.2,a2.1,a2.2⟩
  ·exact absurd h he'
theorem showR_get {it:List (List Int)} {c r:Nat} (hc:c < W) (hr:r < H):∀ (rs:List (List Int)) (st:List (List Int) × Int),st.1.length = H * W →
  (showR X Y S W H it rs st).1[r * W + c]? = if Pure.inl (rs.map rI) (X + c * S) (Y + r * S) then some [Pure.colr (it.map dec39) (X + c * S) (Y + r * S)] else st.1[r * W + c]?
 | [],st,hl => by
  rw [List.map_nil,if_neg (Pure.inl_nil _ _)]
  rfl
 | q :: rs,st,hl => by
  have e:showR X Y S W H it (q :: rs) st = showR X Y S W H it rs (showS X Y S W H it st q):=rfl
  rw [e,showR_get hc hr rs _ (by rw [showS_len]; exact hl),showS_get hG hc hr hl,List.map_cons]
  by_cases h1:Pure.inl (rs.map rI) (X + c * S) (Y + r * S)
  ·rw [if_pos h1,if_pos ((Pure.inl_cons _ _ _ _).2 (.inr h1))]
  ·rw [if_neg h1]
   by_cases h2:Pure.has (rI q) (X + c * S) (Y + r * S)
   ·rw [if_pos h2,if_pos ((Pure.inl_cons _ _ _ _).2 (.inl h2))]
   ·rw [if_neg h2,if_neg]
    rw [Pure.inl_cons]
    rintro (h | h)
    ·exact h2 h
    ·exact h1 h
end
end Go.Proofs.Ytppklhfiajjhmaa.Ti
end
section
namespace Go.Proofs.Ytppklhfiajjhmaa.Ti
open Go Go.RowKit Go.Proofs.Ytppklhfiajjhmaa.Y Go.Proofs.Ytppklhfiajjhmaa.PPT
set_option linter.unusedVariables false
set_option linter.unusedSimpArgs false
def picL (it:List (List Int)) (X Y S:Int) (W H:Nat):List (List Int):=(Pure.pic (it.map dec39) X Y S W H).map fun v => [v]
theorem picL_len (it:List (List Int)) (X Y S:Int) (W H:Nat):(picL it X Y S W H).length = H * W:=by unfold picL; rw [List.length_map,Pure.pic_len]
theorem pic_get (l:List S39) (X Y S:Int) (W:Nat) {c:Nat} (hc:c < W):∀ (n r:Nat),r < n → (Pure.pic l X Y S W n)[r * W + c]? = some (Pure.colr l (X + c * S) (Y + r * S))
 | 0,r,h => by omega
 | n + 1,r,h => by
  rw [Pure.pic_succ]
  have hl:=Pure.pic_len l X Y S W n
  by_cases hr:r < n
  ·have:(r + 1) * W ≤ n * W:=Nat.mul_le_mul_right _ hr
   rw [Nat.add_mul] at this
   rw [List.getElem?_append_left (by omega)]
   exact pic_get l X Y S W hc n r hr
  ·have e:r = n:=by omega
   subst e
   rw [List.getElem?_append_right (by omega),hl,Nat.add_sub_cancel_left]
   unfold Pure.picRow
   rw [List.getElem?_map,List.getElem?_range hc]
   rfl
theorem picL_get (it:List (List Int)) (X Y S:Int) (W H:Nat) {c r:Nat} (hc:c < W) (hr:r < H):(picL it X Y S W H)[r * W + c]? = some [Pure.colr (it.map dec39) (X + c * S) (Y + r * S)]:=by
 unfold picL
 rw [List.getElem?_map,pic_get _ X Y S W hc H r hr]
 rfl
theorem harm_rI (old new:List (List Int)):(harmL old new).map rI = Pure.harm (old.map dec39) (new.map dec39):=by
 unfold harmL
 rw [List.map_map]
 have:(rI ∘ enc37) = id:=by funext x; rfl
 rw [this,List.map_id]
theorem colr_last (l:List S39) (x y:Int):Pure.colr l x y = (Pure.lastC l x y none).getD 0:=by
 rw [Pure.lastC_own]
 unfold Pure.colr
 cases Pure.ownr l x y <;> rfl
section
variable {X Y S:Int} {W H:Nat} (hG:Pure.okG X Y S (W:Int) (H:Int))
include hG
theorem show_pic (old new:List (List Int)) (t:Int):(showR X Y S W H new (harmL old new) (picL old X Y S W H,t)).1 = picL new X Y S W H:=by
 have hW:0 < W:=by obtain ⟨g,_⟩:=hG; omega
 apply List.ext_getElem?
 intro j
 by_cases hj:j < H * W
 ·have hc:j % W < W:=Nat.mod_lt _ hW
  have hr:j / W < H:=(Nat.div_lt_iff_lt_mul hW).2 hj
  have e:j = j / W * W + j % W:=(Nat.div_add_mod' j W).symm
  rw [e,showR_get hG hc hr _ _ (picL_len _ _ _ _ _ _),picL_get new X Y S W H hc hr,picL_get old X Y S W H hc hr,harm_rI]
  split
  ·rfl
  ·rename_i h
   rw [colr_last,colr_last,Pure.lastC_harm _ _ _ _ h]
 ·rw [List.getElem?_eq_none (by rw [showR_len,picL_len]; omega),List.getElem?_eq_none (by rw [picL_len]; omega)]
end
section
variable {X Y S:Int} {W H:Nat} (hG:Pure.okG X Y S (W:Int) (H:Int))
include hG
end
end Go.Proofs.Ytppklhfiajjhmaa.Ti
end
section
namespace Go.Proofs.Ytppklhfiajjhmaa.Ti
open Go Go.RowKit Go.Proofs.Ytppklhfiajjhmaa.Y
set_option linter.unusedVariables false
set_option linter.unusedSimpArgs false
def showOk (X Y S W H:Int) (n0 n1 nc:Nat) (cs old new:List (List Int)):Bool :=
 decide (Pure.okG X Y S W H ∧ (nc:Int) = H * W ∧ cs.length = nc ∧ old.length = n0 ∧ new.length = n1 ∧ old.length + new.length ≤ 90)
def recs? (m:Mem) (b:Nat):Option (List (Option IntKind) × List (List Int) × Nat):=match m[b]? with
 | some (some k) => match k.rec? with
  | some (sh,l) => some (sh,l,k.ty)
  | none => none
 | _ => none
theorem recs_ok {m:Mem} {b:Nat} {sh:List (Option IntKind)} {l:List (List Int)} {ty:Nat} (h:recs? m b = some (sh,l,ty)):∃ k:Blk,m[b]? = some (some k) ∧ k.ty = ty ∧ k.cells = l.flatMap (recC sh 0):=by
 unfold recs? at h
 split at h
 ·rename_i k hk
  split at h
  ·rename_i sh' l' hr
   simp only [Option.some.injEq,Prod.mk.injEq] at h
   obtain ⟨rfl,rfl,rfl⟩:=h
   exact ⟨k,hk,rfl,Blk.rec_cells hr⟩
  ·cases h
 ·cases h
def showG:List MV → Mem → KM → Option Out:=fun args m k => match args with
 | [.ptr b 0,.va e 0 n1 15] => match m[b]? with
  | some (some ⟨.lst [.val (.int .i64 X),.val (.int .i64 Y),.val (.int .i64 S),.val (.int .i64 W),.val (.int .i64 H),.va d 0 n0 15,.va c 0 nc 1],90⟩) => match recs? m d with
   | some (sh0,old,39) => match m[c]? with
    | some (some ⟨.recs sh1 cs,2⟩) => match recs? m e with
     | some (sh2,new,39) => bif decide (sh0 = i64s 15) && decide (sh1 = i64s 1) && decide (sh2 = i64s 15) && decide ([b,c,d,e].Nodup) then
       bif showOk X Y S W H n0 n1 nc cs old new then
        k (.tup [iv (showR X Y S W H new (harmL old new) (cs,0)).2,iv 0])
         ((m.set b (some ⟨.lst [iv X,iv Y,iv S,iv W,iv H,.va (m.length + 1) 0 n1 15,.va c 0 nc 1],90⟩)).set c (some ⟨.recs (i64s 1) (showR X Y S W H new (harmL old new) (cs,0)).1,2⟩) ++
          [some ⟨.recs (i64s 4) (harmL old new),37⟩,some ⟨.recs (i64s 15) new,39⟩])
       else none
      else none
     | _ => none
    | _ => none
   | _ => none
  | _ => none
 | _ => none
theorem wk_of_recs {k:Blk} {sh:List (Option IntKind)} {l:List (List Int)} (h:k.cells = l.flatMap (recC sh 0)) (r:Nat → Nat):k.cells.map wk = renL r (l.flatMap (recC sh 0)):=by
 rw [h,wk_recs,renL_recs]
theorem showG_ok:IOk Try.prog A9.env 36 showG:=by
 intro args m k r hG base w0 σ us w hX hu hM
 unfold showG at hG
 split at hG
 case h_2 => cases hG
 rename_i b e n1
 split at hG
 case h_2 => cases hG
 rename_i X Y S W H d n0 c nc hb
 split at hG
 case h_2 => cases hG
 rename_i sh0 old hd0
 split at hG
 case h_2 => cases hG
 rename_i sh1 cs hc
 split at hG
 case h_2 => cases hG
 rename_i sh2 new he0
 cases h1:(decide (sh0 = i64s 15) && decide (sh1 = i64s 1) && decide (sh2 = i64s 15) && decide ([b,c,d,e].Nodup)) with
 | false => rw [h1] at hG; cases hG
 | true =>
 rw [h1] at hG
 cases h2:showOk X Y S W H n0 n1 nc cs old new with
 | false => rw [h2] at hG; cases hG
 | true =>
 rw [h2] at hG
 simp only [cond_true] at hG
 simp only [Bool.and_eq_true,decide_eq_true_eq] at h1
 obtain ⟨⟨⟨rfl,rfl⟩,rfl⟩,hnd⟩:=h1
 unfold showOk at h2
 simp only [decide_eq_true_eq] at h2
 obtain ⟨q1,q2,q3,q4,q5,q6⟩:=h2
 obtain ⟨kd,hd,hdt,hdc⟩:=recs_ok hd0
 obtain ⟨ke,he,het,hec⟩:=recs_ok he0
 -- the numbers
 have hW0:W = (W.toNat:Int):=by obtain ⟨g,_⟩:=q1; omega
 have hH0:H = (H.toNat:Int):=by obtain ⟨_,g,_⟩:=q1; omega
 have hncN:nc = H.toNat * W.toNat:=by
  have:(nc:Int) = ((H.toNat * W.toNat:Nat):Int):=by rw [q2,hW0,hH0]; push_cast; simp
  exact_mod_cast this
 have hncp:0 < nc:=by
  rw [hncN]
  obtain ⟨g1,g2,_⟩:=q1
  exact Nat.mul_pos (by omega) (by omega)
 have hG1:Pure.okG X Y S (W.toNat:Int) (H.toNat:Int):=by rw [← hW0,← hH0]; exact q1
 have hhl:(harmL old new).length ≤ 1000000:=by
  have:=Pure.harm_len (old.map dec39) (new.map dec39) (by rw [List.length_map,List.length_map]; exact q6)
  unfold harmL
  rw [List.length_map]
  omega
 have hx:=show_x X Y S W H nc cs old new n0 n1 q4 q5 q6 q3 hhl (fun r hr cs' hcs' hem => by
  have:=paint_okq hG1 (n:=n1) (nc:=nc) (cs:=cs') (it:=new) (q:=r) q5 (by omega) hncN hcs'
  rw [← hW0,← hH0] at this
  exact this hem)
 have hl:=showR_len X Y S W H new (harmL old new) (cs,0)
 obtain ⟨cells',hcells'⟩:∃ x,x = (showR X Y S W H new (harmL old new) (cs,0)).1:=⟨_,rfl⟩
 obtain ⟨num,hnum⟩:∃ x,x = (showR X Y S W H new (harmL old new) (cs,0)).2:=⟨_,rfl⟩
 rw [← hcells',← hnum] at hx hG
 rw [← hcells'] at hl
 have hu':=hu
 simp only [RVs] at hu'
 obtain ⟨u0,r0,rfl,hp,u1,r1,rfl,hr,rfl⟩:=hu'
 obtain ⟨g,hg,rfl⟩:=hp.ptr_inv
 obtain ⟨pre,cells,rest,b1,b2,b3,b4,b5⟩:=hM.blk b _ g hb hg
 have hcells:∀ (i:Nat) x,[MV.val (.int .i64 X),.val (.int .i64 Y),.val (.int .i64 S),.val (.int .i64 W),.val (.int .i64 H),.va d 0 n0 15,.va c 0 nc 1][i]? = some x → ∃ u,RV σ x u:=by
  intro i x hi
  obtain ⟨u,_,hu⟩:=RVs.get i b2 hi
  exact ⟨u,hu⟩
 have hdm:0 < n0 → ∃ g,σ d = some g:=by
  intro hn
  obtain ⟨u,h⟩:=hcells 5 _ rfl
  simp only [RV] at h
  obtain ⟨A,cc,_,_,h3⟩:=h
  obtain ⟨g,h4,_⟩:=h3 hn
  exact ⟨g,h4⟩
 have hem:0 < n1 → ∃ g,σ e = some g:=by
  intro hn
  have h:=hr
  simp only [RV] at h
  obtain ⟨A,cc,_,_,h3⟩:=h
  obtain ⟨g,h4,_⟩:=h3 hn
  exact ⟨g,h4⟩
 have hcm:∃ g,σ c = some g:=by
  obtain ⟨u,h⟩:=hcells 6 _ rfl
  simp only [RV] at h
  obtain ⟨A,cc,_,_,h3⟩:=h
  obtain ⟨g,h4,_⟩:=h3 hncp
  exact ⟨g,h4⟩
 have hz:XFz Try.prog A9.env (fun i => (i == 2 && n0 == 0) || (i == 3 && n1 == 0)) 36 [.ptr 0 0,.va 3 0 n1 15] (MS0 X Y S W H nc cs old new n0) (.tup [iv num,iv 0]) (ML X Y S W H n1 nc new (harmL old new) old new cells'):=by
  refine XF.z hx rfl ?_
  exact ML_inb X Y S W H n1 nc cells' new (harmL old new) old new _ rfl rfl
 have hfr:=frameZ (rs:=[b,c,d,e]) true_stable hz (base:=base) (w0:=w0) (σ:=σ) (w:=w) (m:=m) (args:=[.ptr b 0,.va e 0 n1 15]) hnd ?_ (fun h => h) ?_ ?_ ?_ hX hu hM ?_
 ·refine Calls.mono hfr ?_
  rintro e' w' ⟨v,m',σ',u,⟨rfl,rfl⟩,h3,h4,h5,h6⟩
  refine ⟨_,_,σ',u,?_,h3,h4,h5,h6⟩
  rw [← hG]
  rfl
 ·intro i k0 hk
  match i,hk with
  | 0,_ => simp
  | 1,_ => simp
  | 2,_ => simp
  | 3,_ => simp
  | i + 4,hk => simp [MS0,MS] at hk
 ·intro i b' hb'
  match i,hb' with
  | 0,hb' =>
   have e':b = b':=by simpa using hb'
   subst e'
   exact ⟨_,_,hb,rfl,rfl,rfl,fun _ => ⟨rfl,by simp⟩⟩
  | 1,hb' =>
   have e':c = b':=by simpa using hb'
   subst e'
   refine ⟨_,_,hc,rfl,rfl,?_,fun _ => ⟨rfl,?_⟩⟩
   ·show (cs.flatMap (recC (i64s 1) 0)).map wk = renL _ (cs.flatMap (recC (i64s 1) 0))
    rw [wk_recs,renL_recs]
   ·show cs.flatMap (recC (i64s 1) 0) ≠ []
    intro e'
    have:=recs_len (i64s 1) cs
    rw [e'] at this
    simp [i64s] at this
    omega
  | 2,hb' =>
   have e':d = b':=by simpa using hb'
   subst e'
   exact ⟨kd,_,hd,rfl,hdt,wk_of_recs hdc _,fun h => by cases h⟩
  | 3,hb' =>
   have e':e = b':=by simpa using hb'
   subst e'
   exact ⟨ke,_,he,rfl,het,wk_of_recs hec _,fun h => by cases h⟩
  | i + 4,hb' => simp at hb'
 ·intro i k0 hk
  match i,hk with
  | 0,hk =>
   have e':k0 = ⟨.lst [iv X,iv Y,iv S,iv W,iv H,.va 2 0 n0 15,.va 1 0 nc 1],90⟩:=by injection hk with hk; injection hk with hk; exact hk.symm
   subst e'
   exact ⟨_,rfl,rfl,rfl,rfl⟩
  | 1,hk =>
   have e':k0 = ⟨.recs (i64s 1) cs,2⟩:=by injection hk with hk; injection hk with hk; exact hk.symm
   subst e'
   refine ⟨_,rfl,rfl,rfl,?_⟩
   show (cells'.flatMap (recC (i64s 1) 0)).length = (cs.flatMap (recC (i64s 1) 0)).length
   rw [recs_len,recs_len,hl]
  | 2,hk => exact ⟨k0,hk,rfl,rfl,rfl⟩
  | 3,hk => exact ⟨k0,hk,rfl,rfl,rfl⟩
  | i + 4,hk => simp [MS0,MS] at hk
 ·intro i k1 hi hk
  match i,hi,hk with
  | 4,_,hk =>
   have e':k1 = ⟨.recs (i64s 4) (harmL old new),37⟩:=by injection hk with hk; injection hk with hk; exact hk.symm
   subst e'; rfl
  | 5,_,hk =>
   have e':k1 = ⟨.recs (i64s 15) new,39⟩:=by injection hk with hk; injection hk with hk; exact hk.symm
   subst e'; rfl
  | i + 6,_,hk => simp [ML,MS] at hk
 ·intro i b' hb'
  match i,hb' with
  | 0,hb' =>
   have e':b = b':=by simpa using hb'
   subst e'
   exact .inr ⟨g,hg⟩
  | 1,hb' =>
   have e':c = b':=by simpa using hb'
   subst e'
   exact .inr hcm
  | 2,hb' =>
   have e':d = b':=by simpa using hb'
   subst e'
   rcases Nat.eq_zero_or_pos n0 with h | h
   ·exact .inl (by rw [h]; rfl)
   ·exact .inr (hdm h)
  | 3,hb' =>
   have e':e = b':=by simpa using hb'
   subst e'
   rcases Nat.eq_zero_or_pos n1 with h | h
   ·exact .inl (by rw [h]; rfl)
   ·exact .inr (hem h)
  | i + 4,hb' => simp at hb'
end Go.Proofs.Ytppklhfiajjhmaa.Ti
end
section
namespace Go.Proofs.Ytppklhfiajjhmaa.Ti
open Go Go.RowKit Go.Proofs.Ytppklhfiajjhmaa.Y Go.Proofs.Ytppklhfiajjhmaa.PPT Go.Proofs.YtppklhfiajjhmaaW.PrintWords Go.Proofs.YtppklhfiajjhmaaW.PrintLast
set_option linter.unusedVariables false
set_option linter.unusedSimpArgs false
theorem RM.weak {base:Bs} {w0 w:World} {σ:Sg} {m m2:Mem} (h:RM base w0 σ m w)
  (h1:∀ (i:Nat) (k2:Blk),m2[i]? = some (some k2) → σ i = none ∨ ∃ k:Blk,m[i]? = some (some k) ∧ k2.ty = k.ty ∧ k2.ro = k.ro ∧ (k2.cells = [] ↔ k.cells = []) ∧ ∀ us,RVs σ k.cells us → RVs σ k2.cells us)
  (h2:∀ (i:Nat) (k:Blk),m[i]? = some (some k) → ∃ k2:Blk,m2[i]? = some (some k2)):RM base w0 σ m2 w:=by
 refine ⟨fun b k g hk hg => ?_,fun b c g k l hb hc r1 r2 n1 n2 g1 g2 => ?_,fun b g hg => ?_,fun b g k hk hg hr => ?_,fun b g k hk hg hr hn => ?_,h.bel,h.base⟩
 ·rcases h1 b k hk with hz | ⟨k0,e1,e2,e3,e4,e5⟩
  ·rw [hg] at hz; cases hz
  ·obtain ⟨pre,cs,rest,d1,d2,d3,d4,d5⟩:=h.blk b k0 g e1 hg
   exact ⟨pre,cs,rest,d1.as (fun hh => ⟨by rw [← e3]; exact hh,e2⟩),e5 _ d2,d3,d4,fun hh => d5 (by rw [← e3]; exact hh)⟩
 ·rcases h1 b k hb with hz | ⟨k0,e1,e2,e3,e4,e5⟩
  ·rw [g1] at hz; cases hz
  ·rcases h1 c l hc with hz | ⟨l0,f1,f2,f3,f4,f5⟩
   ·rw [g2] at hz; cases hz
   ·exact h.inj b c g k0 l0 e1 f1 (by rw [← e3]; exact r1) (by rw [← f3]; exact r2) (fun hh => n1 (e4.2 hh)) (fun hh => n2 (f4.2 hh)) g1 g2
 ·obtain ⟨k,hk⟩:=h.dom b g hg
  exact h2 b k hk
 ·rcases h1 b k hk with hz | ⟨k0,e1,e2,e3,e4,e5⟩
  ·rw [hg] at hz; cases hz
  ·exact h.lo b g k0 e1 hg (by rw [← e3]; exact hr)
 ·rcases h1 b k hk with hz | ⟨k0,e1,e2,e3,e4,e5⟩
  ·rw [hg] at hz; cases hz
  ·exact h.hi b g k0 e1 hg (by rw [← e3]; exact hr) (fun hh => hn (e4.2 hh))
def un:MV → MV
 | .gv b n s => .va b 0 n s
 | x => x
theorem un_ok {σ:Sg} {x:MV} {u:Value} (h:RV σ x u):RV σ (un x) u:=by
 unfold un
 split
 ·rename_i b n s
  obtain ⟨A,c,e1,e2,_,e3⟩:=h.gv_inv
  simp only [RV]
  exact ⟨A,c,e1,e2,fun hp => by obtain ⟨g,f1,f2,_⟩:=e3 (by omega); exact ⟨g,f1,by simpa using f2⟩⟩
 ·exact h
def showH:List MV → Mem → KM → Option Out:=fun args m k => match args with
 | [.ptr b 0,e] => match m[b]? with
  | some (some ⟨.lst [.val (.int .i64 X),.val (.int .i64 Y),.val (.int .i64 S),.val (.int .i64 W),.val (.int .i64 H),.val (.slice none 0 0),.va c 0 nc 1],90⟩) =>
   showG [.ptr b 0,un e] (m.set b (some ⟨.lst [iv X,iv Y,iv S,iv W,iv H,.va m.length 0 0 15,.va c 0 nc 1],90⟩) ++ [some ⟨.recs (i64s 15) [],39⟩]) k
  | _ => showG [.ptr b 0,un e] m k
 | _ => none
theorem showH_ok:IOk Try.prog A9.env 36 showH:=by
 intro args m k r hG base w0 σ us w hX hu hM
 unfold showH at hG
 split at hG
 case h_2 => cases hG
 rename_i b e
 have hu':RVs σ [.ptr b 0,un e] us:=by
  simp only [RVs] at hu ⊢
  obtain ⟨u0,r0,rfl,h0,u1,r1,rfl,h1,rfl⟩:=hu
  exact ⟨u0,_,rfl,h0,u1,_,rfl,un_ok h1,rfl⟩
 split at hG
 case h_2 => exact showG_ok _ m k r hG base w0 σ us w hX hu' hM
 rename_i X Y S W H c nc hb
 refine showG_ok _ _ k r hG base w0 σ us w hX hu' (RM.weak hM ?_ ?_)
 ·intro i k2 hk
  rcases Nat.lt_or_ge i m.length with hi | hi
  ·rw [List.getElem?_append_left (by simpa using hi)] at hk
   by_cases e':i = b
   ·subst e'
    right
    rw [List.getElem?_set_self hi] at hk
    simp only [Option.some.injEq] at hk
    subst hk
    refine ⟨_,hb,rfl,rfl,by simp,fun us h => ?_⟩
    simp only [Blk.cells_lst,RVs] at h ⊢
    obtain ⟨u1,r1,rfl,a1,u2,r2,rfl,a2,u3,r3,rfl,a3,u4,r4,rfl,a4,u5,r5,rfl,a5,u6,r6,rfl,a6,h7⟩:=h
    refine ⟨u1,_,rfl,a1,u2,_,rfl,a2,u3,_,rfl,a3,u4,_,rfl,a4,u5,_,rfl,a5,u6,_,rfl,?_,h7⟩
    have e2:=a6.val_inv
    subst e2
    simp only [RV]
    exact ⟨none,0,rfl,Nat.le_refl _,fun h => absurd h (by simp)⟩
   ·right
    rw [List.getElem?_set_ne (Ne.symm e')] at hk
    exact ⟨k2,hk,rfl,rfl,Iff.rfl,fun _ h => h⟩
  ·left
   cases hs:σ i with
   | none => rfl
   | some g =>
    obtain ⟨k0,hk0⟩:=hM.dom i g hs
    have:=(List.getElem?_eq_some_iff.1 hk0).1
    omega
 ·intro i k0 hk0
  have hi:=(List.getElem?_eq_some_iff.1 hk0).1
  rw [List.getElem?_append_left (by simpa using hi)]
  by_cases e':i = b
  ·subst e'
   rw [List.getElem?_set_self hi]
   exact ⟨_,rfl⟩
  ·rw [List.getElem?_set_ne (Ne.symm e')]
   exact ⟨_,hk0⟩
def rightP:List MV → Option MV
 | [.agg [.val (.int .i64 X),.val (.int .i64 Y),.val (.int .i64 S),.val (.int .i64 W),.val (.int .i64 H)]] => some (.val (.bool (decide (Pure.okG X Y S W H))))
 | _ => none
theorem rightP_ok {X:Env}:QOk Try.prog X 27 (toQ rightP):=by
 refine Q_of (fun args v h => ?_)
 unfold rightP at h
 split at h
 ·rename_i X Y S W H
  injection h with h; subst h
  exact ⟨_,_,rfl,rfl,fun w => decoupageref28_Right.calls X Y S W H _ w (Pure.rright_eq X Y S W H)⟩
 ·cases h
def rdrawN:List MV → (Nat → Option Blk) → (Blk → (Nat → MV) → Option Out) → Option Out:=fun args rd k => match args with
 | [a,.agg [.val (.int .i64 X),.val (.int .i64 Y),.val (.int .i64 S),.val (.int .i64 W),.val (.int .i64 H)]] => match rowsC T0 (i64s 15) rd a with
  | (c,some l) => bif c then bif decide (l.length ≤ 1000 ∧ Pure.okG X Y S W H) then k ⟨.recs (i64s 1) (picL l X Y S W.toNat H.toNat),2⟩ (fun b => .va b 0 (picL l X Y S W.toNat H.toNat).length 1) else none else none
  | (_,none) => none
 | _ => none
theorem rdrawN_ok {X:Env}:NOk Try.prog X 29 rdrawN:=by
 intro args rd k r hG
 unfold rdrawN at hG
 split at hG
 case h_2 => cases hG
 rename_i a X Y S W H
 split at hG
 case h_2 => cases hG
 rename_i c l hl0
 cases c with
 | false => simp at hG
 | true =>
 simp only [cond_true] at hG
 cases hd:decide (l.length ≤ 1000 ∧ Pure.okG X Y S W H) with
 | false => rw [hd] at hG; simp at hG
 | true =>
 rw [hd] at hG
 simp only [cond_true] at hG
 simp only [decide_eq_true_eq] at hd
 have hl:=rowsC_ok hl0
 obtain ⟨K,hK⟩:=Pure.rdraw_ok (l.map dec39) X Y S W H (by rw [List.length_map]; exact hd.1) hd.2
 refine ⟨_,_,hG,rfl,fun base w0 σ us w hX hb hn hu hr => ?_⟩
 simp only [RVs] at hu
 obtain ⟨u0,r0,rfl,h0,u1,r1,rfl,h1,rfl⟩:=hu
 obtain ⟨A,cc,rfl,hc,hC⟩:=items_C (rowsOf_ok hl (T0_out _ base w0 σ.x) hb h0 (fun b k hb' hk => hr b k (reach_l (by simp [refsL,hb'])) hk)) hd.1
 have hus:=(pls_ok (σ:=σ) [.agg [.val (.int .i64 X),.val (.int .i64 Y),.val (.int .i64 S),.val (.int .i64 W),.val (.int .i64 H)]] _ rfl [u1]).1 (by simp only [RVs]; exact ⟨u1,[],rfl,h1,rfl⟩)
 simp only [List.cons.injEq,and_true] at hus
 subst hus
 refine Calls.mono (decoupageref28_Draw.calls K A cc (l.map dec39) X Y S W H _ w hC hc (hK K (Nat.le_refl K))) ?_
 rintro e w' ⟨v,rfl,hR,hB⟩
 exact ⟨_,rfl,fresh_own (l:=picL l X Y S W.toNat H.toNat) (by unfold picL; rw [List.length_map]; exact ints_own hR) rfl rfl,hB⟩
theorem ints_C {w:World} {u:Value} {l:List (List Int)} {ok:Nat → Prop} (h:SliceAt w u (i64s 1) l ok) (hl:l.length ≤ 1000000) :
  ∃ A c,u = .slice A (l.map fun r => r.getD 0 0).length c ∧ (l.map fun r => r.getD 0 0).length ≤ c ∧ Kd.C (Kd.int .i64) w A (l.map fun r => r.getD 0 0).length (l.map fun r => r.getD 0 0):=by
 obtain ⟨A,c,h1,h2,h3⟩:=h
 refine ⟨A,c,by rw [h1,List.length_map],by rw [List.length_map]; exact h2,rfl,by rw [List.length_map]; omega,fun hn => ?_⟩
 rw [List.length_map] at hn
 obtain ⟨ad,e1,_,e3⟩:=h3 hn
 refine ⟨ad,e1,fun j p hj => ?_⟩
 rw [List.getElem?_map] at hj
 obtain ⟨r,hr,rfl⟩:=Option.map_eq_some_iff.1 hj
 have hjl:j < l.length:=(List.getElem?_eq_some_iff.1 hr).1
 have hg:l.getD j [] = r:=by rw [List.getD_eq_getElem?_getD,hr]; rfl
 refine ⟨recV (i64s 1) 0 r,rfl,rfl,fun i v hv => ?_⟩
 exact e3 j hjl i v (by rw [hg]; exact hv)
theorem same_l (l:List Int) (hl:l.length ≤ 1000000):∀ (r1 r2 d:List Int) (k:Nat),r1.length < k → r1.length = r2.length → (d ++ r1).length ≤ 1000000 →
  decoupagelaw34_same.l0 k (d ++ r1) (d ++ r2) ((d ++ r1).length:Int) (d.length:Int) = some (decide (r1 = r2))
 | [],r2,d,k,hk,he,hb => by
  obtain ⟨k,rfl⟩:∃ m,k = m + 1:=⟨k - 1,by omega⟩
  have:r2 = []:=List.length_eq_zero_iff.1 he.symm
  subst this
  simp only [decoupagelaw34_same.l0]
  rw [if_neg (by simp)]
  rfl
 | x :: r1,[],d,k,hk,he,hb => by simp at he
 | x :: r1,y :: r2,d,k,hk,he,hb => by
  obtain ⟨k,rfl⟩:∃ m,k = m + 1:=⟨k - 1,by omega⟩
  simp only [List.length_cons] at hk he
  simp only [List.length_append,List.length_cons] at hb
  have e1:rd (d ++ x :: r1) (d.length:Int) = x:=by unfold rd; simp
  have e2:rd (d ++ y :: r2) (d.length:Int) = y:=by unfold rd; simp
  simp only [decoupagelaw34_same.l0]
  rw [if_pos (by simp; omega),if_pos (by omega),if_pos (by simp; omega),if_pos (by simp; omega),e1,e2]
  have e3:wrap64 ((d.length:Int) + 1) = ((d ++ [x]).length:Int):=by rw [Pure.w64 (by omega) (by omega)]; simp
  by_cases hxy:x = y
  ·subst hxy
   rw [if_pos rfl,e3]
   have:=same_l l hl r1 r2 (d ++ [x]) k (by omega) (by omega) (by simp; omega)
   simp only [List.append_assoc,List.singleton_append] at this
   rw [this]
   simp
  ·rw [if_neg hxy]
   simp [hxy]
theorem same_eq (a b:List Int) (ha:a.length ≤ 1000000) (k:Nat) (hk:a.length < k):decoupagelaw34_same.f k a b = some (decide (a = b)):=by
 unfold decoupagelaw34_same.f
 by_cases h:a.length = b.length
 ·rw [if_pos (by omega)]
  have:=same_l a ha a b [] k hk h (by simpa using ha)
  simpa using this
 ·rw [if_neg (by omega),decide_eq_false (fun e => h (by rw [e]))]
def sameB (l m:List (List Int)):Bool:=decide ((l.map fun r => r.getD 0 0) = m.map fun r => r.getD 0 0)
def sameG:List MV → (Nat → Option Blk) → KV → Option Out:=fun args rd k => match args with
 | [a,b] => match rowsC T0 (i64s 1) rd a with
  | (c,some l) => match rowsC T0 (i64s 1) rd b with
   | (d,some m) => bif c then bif d then bif decide (l.length ≤ 1000000 ∧ m.length ≤ 1000000) then k (.val (.bool (sameB l m))) else none else none else none
   | (_,none) => none
  | (_,none) => none
 | _ => none
theorem sameG_ok {X:Env}:QOk Try.prog X 37 sameG:=by
 intro args rd k r hG
 unfold sameG at hG
 split at hG
 case h_2 => cases hG
 rename_i a b
 split at hG
 case h_2 => cases hG
 rename_i c l hl0
 split at hG
 case h_2 => cases hG
 rename_i d m hm0
 cases c with
 | false => simp at hG
 | true =>
 cases d with
 | false => simp at hG
 | true =>
 simp only [cond_true] at hG
 cases hd:decide (l.length ≤ 1000000 ∧ m.length ≤ 1000000) with
 | false => rw [hd] at hG; simp at hG
 | true =>
 rw [hd] at hG
 simp only [cond_true] at hG
 simp only [decide_eq_true_eq] at hd
 have hl:=rowsC_ok hl0
 have hm:=rowsC_ok hm0
 refine ⟨_,hG,fun base w0 σ us w hX hb hn hu hr => ?_⟩
 simp only [RVs] at hu
 obtain ⟨u0,r0,rfl,h0,u1,r1,rfl,h1,rfl⟩:=hu
 obtain ⟨A,cc,rfl,hc,hC⟩:=ints_C (rowsOf_ok hl (T0_out _ base w0 σ.x) hb h0 (fun b k hb' hk => hr b k (reach_l (by simp [refsL,hb'])) hk)) hd.1
 obtain ⟨A1,c1,rfl,hc1,hC1⟩:=ints_C (rowsOf_ok hm (T0_out _ base w0 σ.x) hb h1 (fun b k hb' hk => hr b k (reach_l (by simp [refsL,hb'])) hk)) hd.2
 have hse:=same_eq (l.map fun r => r.getD 0 0) (m.map fun r => r.getD 0 0) (by rw [List.length_map]; exact hd.1) (l.length + 1) (by rw [List.length_map]; omega)
 have hcl:=decoupagelaw34_same.calls (l.length + 1) A cc (l.map fun r => r.getD 0 0) A1 c1 (m.map fun r => r.getD 0 0) (sameB l m) w hC hc hC1 hc1 hse
 refine Calls.mono hcl ?_
 rintro e w' ⟨rfl,hB⟩
 exact ⟨_,rfl,by simp only [RV],hB.below⟩
noncomputable def B0:Ctx:=addN C0 57 (cloneR 2 1)
theorem B0_ok:COk Try.prog B0:=addN_ok (C0_ok _) clone57_ok (fnOk_of Try.func57 (by kernel_rfl) (by kernel_rfl))
set_option maxRecDepth 100000 in
theorem cellsNf (X Y S W H:Int) (nc:Nat) (cs:List (List Int)) (c0:KM):xfun Try.prog E B0 3 38 [.ptr 0 0] [some ⟨.rlst [iv X,iv Y,iv S,iv W,iv H,.any,.va 1 0 nc 1],90⟩,some ⟨.rrecs (i64s 1) cs,2⟩] c0 =
  bif List.length cs == nc then bif decide (List.length cs ≤ 1000000) then c0 (MV.va 2 0 (List.length cs) 1) [some { row:=Row.rlst [MV.val (Value.int IntKind.i64 X),MV.val (Value.int IntKind.i64 Y),MV.val (Value.int IntKind.i64 S),MV.val (Value.int IntKind.i64 W),MV.val (Value.int IntKind.i64 H),MV.any,MV.va 1 0 nc 1],ty:=90 },some { row:=Row.rrecs [some IntKind.i64] cs,ty:=2 },some { row:=Row.recs [some IntKind.i64] cs,ty:=2 }] else none else none:=by kernel_rfl
def cellsN:List MV → (Nat → Option Blk) → (Blk → (Nat → MV) → Option Out) → Option Out:=fun args rd k => match args with
 | [.ptr b 0] => match rd b with
  | some ⟨.lst [.val (.int .i64 X),.val (.int .i64 Y),.val (.int .i64 S),.val (.int .i64 W),.val (.int .i64 H),L,.va c 0 nc 1],90⟩ => match rd c with
   | some ⟨.recs sh cs,2⟩ => bif decide (sh = i64s 1) && MV.atom L then bif decide (cs.length = nc ∧ cs.length ≤ 1000000) then k ⟨.recs (i64s 1) cs,2⟩ (fun b => .va b 0 cs.length 1) else none else none
   | _ => none
  | _ => none
 | _ => none
theorem cellsN_ok:NOk Try.prog B0.env 38 cellsN:=by
 intro args rd k r hG
 unfold cellsN at hG
 split at hG
 case h_2 => cases hG
 rename_i b
 split at hG
 case h_2 => cases hG
 rename_i X Y S W H L c nc hb
 split at hG
 case h_2 => cases hG
 rename_i sh cs hc
 cases h1:(decide (sh = i64s 1) && MV.atom L) with
 | false => rw [h1] at hG; simp at hG
 | true =>
 rw [h1] at hG
 cases h2:decide (cs.length = nc ∧ cs.length ≤ 1000000) with
 | false => rw [h2] at hG; simp at hG
 | true =>
 rw [h2] at hG
 simp only [cond_true] at hG
 simp only [Bool.and_eq_true,decide_eq_true_eq] at h1 h2
 obtain ⟨rfl,hL⟩:=h1
 obtain ⟨rfl,hbig⟩:=h2
 refine ⟨_,_,hG,rfl,fun base w0 σ us w hX hbel hn hu hr => ?_⟩
 have hx:XF Try.prog B0.env 38 [.ptr 0 0] [some ⟨.rlst [iv X,iv Y,iv S,iv W,iv H,.any,.va 1 0 cs.length 1],90⟩,some ⟨.rrecs (i64s 1) cs,2⟩]
   (fun v m' => v = .va 2 0 cs.length (i64s 1).length ∧ m' = [some ⟨.rlst [iv X,iv Y,iv S,iv W,iv H,.any,.va 1 0 cs.length 1],90⟩,some ⟨.rrecs (i64s 1) cs,2⟩] ++ [some ⟨.recs (i64s 1) cs,2⟩]):=by
  apply XF.of_x E_ok B0_ok mixed (n:=3)
  ·intro k
   rw [cellsNf]
   have c1:(cs.length == cs.length) = true:=by simp
   have c2:decide (cs.length ≤ 1000000) = true:=decide_eq_true hbig
   simp only [c1,c2,cond_true]
   rfl
  ·exact ⟨rfl,rfl⟩
 refine N_va (rs:=[b,c]) true_stable hx hX hbel hn rfl ?_ ?_ ?_
 ·rintro τ ⟨hτ,hs⟩
  obtain ⟨s1,s2,s3⟩:=hs 0 b rfl
  simp only [RVs,RV] at hu ⊢
  obtain ⟨u0,r0,rfl,⟨g,hg,rfl⟩,rfl⟩:=hu
  exact ⟨_,_,rfl,⟨g,by rw [s1]; exact hg,by rw [s3]⟩,rfl⟩
 ·intro i k0 hk
  match i,hk with
  | 0,hk =>
   simp only [List.getElem?_cons_zero,Option.some.injEq] at hk
   subst hk
   refine ⟨rfl,b,_,rfl,hr b _ (reach_l (by simp [refsL,refs])) hb,rfl,?_⟩
   rintro τ us' ⟨hτ,hs⟩ h
   obtain ⟨s1,s2,s3⟩:=hs 1 c rfl
   simp only [Blk.cells,RVs] at h ⊢
   obtain ⟨u1,r1,rfl,a1,u2,r2,rfl,a2,u3,r3,rfl,a3,u4,r4,rfl,a4,u5,r5,rfl,a5,u6,r6,rfl,a6,u7,r7,rfl,a7,rfl⟩:=h
   refine ⟨u1,_,rfl,a1,u2,_,rfl,a2,u3,_,rfl,a3,u4,_,rfl,a4,u5,_,rfl,a5,u6,_,rfl,?_,u7,_,rfl,?_,rfl⟩
   ·simp only [RV]; exact RV.atom a6 hL
   ·simp only [RV] at a7 ⊢
    obtain ⟨A,cc,e1,e2,e3⟩:=a7
    refine ⟨A,cc,e1,e2,fun hp => ?_⟩
    obtain ⟨g,e4,e5⟩:=e3 hp
    exact ⟨g,by rw [s1]; exact e4,by rw [s3]; exact e5⟩
  | 1,hk =>
   simp only [List.getElem?_cons_succ,List.getElem?_cons_zero,Option.some.injEq] at hk
   subst hk
   refine ⟨rfl,c,_,rfl,hr c _ (reach_r (a:=b) (by simp [refsL,refs]) hb (by simp [refsB,refsL,refs])) hc,rfl,?_⟩
   rintro τ us' ⟨hτ,hs⟩ h
   have:=rows_inv h
   subst this
   exact rows_RVs τ _ _
  | i + 2,hk => simp at hk
 ·intro i b' hb'
  match i,hb' with
  | 0,_ => exact ⟨_,rfl⟩
  | 1,_ => exact ⟨_,rfl⟩
  | i + 2,hb' => simp at hb'
end Go.Proofs.Ytppklhfiajjhmaa.Ti
end
section
namespace Go.Proofs.Ytppklhfiajjhmaa.Ti
open Go Go.RowKit Go.Proofs.Ytppklhfiajjhmaa.Y
set_option linter.unusedVariables false
set_option linter.unusedSimpArgs false
noncomputable def F1:Ctx:=addI C0 36 showH
theorem F1_ok:COk Try.prog F1:=addI_ok (C0_ok _) showH_ok (fnOk_of Try.func36 (by kernel_rfl) (by kernel_rfl))
noncomputable def F2:Ctx:=addN F1 28 drawG
theorem F2_ok:COk Try.prog F2:=addN_ok F1_ok drawG_ok (fnOk_of Try.func28 (by kernel_rfl) (by kernel_rfl))
noncomputable def F3:Ctx:=addI F2 35 (inlG Try.prog E F2 3 35)
theorem F3_ok:COk Try.prog F3:=addI_ok F2_ok (inl_ok E_ok F2_ok mixed _ _) (fnOk_of Try.func35 (by kernel_rfl) (by kernel_rfl))
noncomputable def F4:Ctx:=addN F3 38 cellsN
theorem F4_ok:COk Try.prog F4:=addN_ok F3_ok cellsN_ok (fnOk_of Try.func38 (by kernel_rfl) (by kernel_rfl))
noncomputable def F5:Ctx:=addR F4 37 sameG
theorem F5_ok:COk Try.prog F5:=addR_ok F4_ok sameG_ok (fnOk_of Try.func37 (by kernel_rfl) (by kernel_rfl))
noncomputable def F6:Ctx:=addQ F5 27 rightP
theorem F6_ok:COk Try.prog F6:=addQ_ok F5_ok rightP_ok (fnOk_of Try.func27 (by kernel_rfl) (by kernel_rfl))
noncomputable def F7:Ctx:=addN F6 29 rdrawN
theorem F7_ok:COk Try.prog F7:=addN_ok F6_ok rdrawN_ok (fnOk_of Try.func29 (by kernel_rfl) (by kernel_rfl))
noncomputable def F8:Ctx:=addI F7 34 (inlG Try.prog E F7 7 34)
theorem F8_ok:COk Try.prog F8:=addI_ok F7_ok (inl_ok E_ok F7_ok mixed _ _) (fnOk_of Try.func34 (by kernel_rfl) (by kernel_rfl))
noncomputable def F9:Ctx:=addQ F8 33 awakeG
theorem F9_ok:COk Try.prog F9:=addQ_ok F8_ok awakeG_ok (fnOk_of Try.func33 (by kernel_rfl) (by kernel_rfl))
end Go.Proofs.Ytppklhfiajjhmaa.Ti
end
section
namespace Go.Proofs.Ytppklhfiajjhmaa.Ti
open Go Go.RowKit Go.Proofs.Ytppklhfiajjhmaa.Y
set_option linter.unusedVariables false
set_option linter.unusedSimpArgs false
end Go.Proofs.Ytppklhfiajjhmaa.Ti
end
