/- What is proved: texts of the law TilesShow, joined by program. Conditions: none but those in each statement. -/
import Derived.Test.YtppklhfiajjhmaaZTilesShow21
import Derived.Test.YtppklhfiajjhmaaZTilesShow17
import Derived.Test.YtppklhfiajjhmaaZTilesShow20
import Derived.Test.YtppklhfiajjhmaaZTilesShow18
section
namespace Go.Proofs.Ytppklhfiajjhmaa.Ti
open Go Go.RowKit Go.Proofs.Ytppklhfiajjhmaa.Y
set_option linter.unusedVariables false
set_option linter.unusedSimpArgs false
noncomputable def C1:Ctx:=addR C0 51 (ownerG T0)
noncomputable def C2:Ctx:=addQ C1 53 meetG
noncomputable def C3:Ctx:=addQ C2 55 emptyG
noncomputable def C4:Ctx:=addN C3 18 harmP
noncomputable def C5:Ctx:=addN C4 52 (cloneG T0)
noncomputable def C6:Ctx:=addN C5 28 drawG
noncomputable def C7:Ctx:=addI C6 72 (inlG Try.prog E C6 3 72)
noncomputable def C8:Ctx:=addR C7 65 (toR1 (runF Try.prog E C7 3 65))
noncomputable def C9:Ctx:=addR C8 54 (toR1 (runF Try.prog E C8 3 54))
noncomputable def C10:Ctx:=addI C9 56 (inlG Try.prog E C9 5 56)
noncomputable def C11:Ctx:=addI C10 36 (inlG Try.prog E C10 5 36)
noncomputable def C12:Ctx:=addI C11 35 (inlG Try.prog E C11 3 35)
noncomputable def C13:Ctx:=addI C12 41 (inlG Try.prog E C12 3 41)
theorem C1_ok:COk Try.prog C1:=addR_ok (C0_ok _) (ownerG_ok (fun B w x _ => T0_out _ B w x)) (fnOk_of Try.func51 (by kernel_rfl) (by kernel_rfl))
theorem C2_ok:COk Try.prog C2:=addQ_ok C1_ok meetG_ok (fnOk_of Try.func53 (by kernel_rfl) (by kernel_rfl))
theorem C3_ok:COk Try.prog C3:=addQ_ok C2_ok emptyG_ok (fnOk_of Try.func55 (by kernel_rfl) (by kernel_rfl))
theorem C4_ok:COk Try.prog C4:=addN_ok C3_ok harmP_ok (fnOk_of Try.func18 (by kernel_rfl) (by kernel_rfl))
theorem C5_ok:COk Try.prog C5:=addN_ok C4_ok (cloneG_ok (fun B w x _ => T0_out _ B w x)) (fnOk_of Try.func52 (by kernel_rfl) (by kernel_rfl))
theorem C6_ok:COk Try.prog C6:=addN_ok C5_ok drawG_ok (fnOk_of Try.func28 (by kernel_rfl) (by kernel_rfl))
theorem C7_ok:COk Try.prog C7:=addI_ok C6_ok (inl_ok E_ok C6_ok mixed _ _) (fnOk_of Try.func72 (by kernel_rfl) (by kernel_rfl))
theorem C8_ok:COk Try.prog C8:=addR_ok C7_ok (Q_run E_ok C7_ok mixed true_stable 3 _) (fnOk_of Try.func65 (by kernel_rfl) (by kernel_rfl))
theorem C9_ok:COk Try.prog C9:=addR_ok C8_ok (Q_run E_ok C8_ok mixed true_stable 3 _) (fnOk_of Try.func54 (by kernel_rfl) (by kernel_rfl))
theorem C10_ok:COk Try.prog C10:=addI_ok C9_ok (inl_ok E_ok C9_ok mixed _ _) (fnOk_of Try.func56 (by kernel_rfl) (by kernel_rfl))
theorem C11_ok:COk Try.prog C11:=addI_ok C10_ok (inl_ok E_ok C10_ok mixed _ _) (fnOk_of Try.func36 (by kernel_rfl) (by kernel_rfl))
theorem C12_ok:COk Try.prog C12:=addI_ok C11_ok (inl_ok E_ok C11_ok mixed _ _) (fnOk_of Try.func35 (by kernel_rfl) (by kernel_rfl))
theorem C13_ok:COk Try.prog C13:=addI_ok C12_ok (inl_ok E_ok C12_ok mixed _ _) (fnOk_of Try.func41 (by kernel_rfl) (by kernel_rfl))
set_option maxRecDepth 100000 in
theorem awake_x:xfun Try.prog E C13 3 33 [] [] fin = some (.val (.bool true),[]):=by kernel_rfl
def awakeG:List MV → Option MV
 | [] => some (.val (.bool true))
 | _ => none
theorem awakeG_ok {X:Env}:QOk Try.prog X 33 (toQ awakeG):=Q_of_x E_ok C13_ok (fun _ _ _ => trivial) mixed (fun args v h => by
 unfold awakeG at h
 split at h
 ·injection h with h; subst h
  exact ⟨⟨_,rfl⟩,⟨_,rfl⟩,awake_x⟩
 ·cases h)
end Go.Proofs.Ytppklhfiajjhmaa.Ti
end
section
namespace Go.Proofs.Ytppklhfiajjhmaa.Ti
open Go Go.RowKit Go.Proofs.Ytppklhfiajjhmaa.Y Go.Proofs.Ytppklhfiajjhmaa.PPT Go.Proofs.YtppklhfiajjhmaaW.PrintWords Go.Proofs.YtppklhfiajjhmaaW.PrintLast
set_option linter.unusedVariables false
set_option linter.unusedSimpArgs false
def docOk (X Y S W H:Int) (old new cs:List (List Int)):Bool:=decide (Pure.okG X Y S W H ∧ (cs.length:Int) = H * W ∧ old.length + new.length ≤ 90)
def docN:List MV → (Nat → Option Blk) → (Blk → (Nat → MV) → Option Out) → Option Out:=fun args rd k => match args with
 | [.agg [.val (.int .i64 X),.val (.int .i64 Y),.val (.int .i64 S),.val (.int .i64 W),.val (.int .i64 H),L,C],.va e 0 n1 15] => match rowsC T0 (i64s 15) rd L with
  | (c0,some old) => match rowsC T0 (i64s 1) rd C with
   | (c1,some cs) => match rowsC T0 (i64s 15) rd (.va e 0 n1 15) with
    | (c2,some new) => bif c0 && (c1 && c2) then bif docOk X Y S W H old new cs then k ⟨.recs (i64s 1) (showR X Y S W H new (harmL old new) (cs,0)).1,2⟩ (fun b => .tup [.agg [iv X,iv Y,iv S,iv W,iv H,.va e 0 n1 15,.va b 0 cs.length 1],iv (showR X Y S W H new (harmL old new) (cs,0)).2]) else none else none
    | (_,none) => none
   | (_,none) => none
  | (_,none) => none
 | _ => none
theorem docN_ok:NOk Try.prog G3.env 40 docN:=by
 intro args rd k r hG
 unfold docN at hG
 split at hG
 case h_2 => cases hG
 rename_i X Y S W H L C e n1
 split at hG
 case h_2 => cases hG
 rename_i c0 old hold
 split at hG
 case h_2 => cases hG
 rename_i c1 cs hcs
 split at hG
 case h_2 => cases hG
 rename_i c2 new hnew
 cases hc:(c0 && (c1 && c2)) with
 | false => rw [hc] at hG; cases hG
 | true =>
 rw [hc] at hG
 simp only [cond_true] at hG
 simp only [Bool.and_eq_true] at hc
 obtain ⟨rfl,rfl,rfl⟩:=hc
 cases hd:docOk X Y S W H old new cs with
 | false => rw [hd] at hG; cases hG
 | true =>
 rw [hd] at hG
 simp only [cond_true] at hG
 obtain ⟨d1,d2,d3⟩:=of_decide_eq_true hd
 obtain ⟨Wn,rfl⟩:∃ n:Nat,W = n:=⟨W.toNat,by obtain ⟨g,_⟩:=d1; omega⟩
 obtain ⟨Hn,rfl⟩:∃ n:Nat,H = n:=⟨H.toNat,by obtain ⟨_,g,_⟩:=d1; omega⟩
 have hcl:cs.length = Hn * Wn:=by exact_mod_cast d2
 refine ⟨_,_,hG,rfl,fun base w0 σ us w hX hb hn hu hr => ?_⟩
 simp only [RVs] at hu
 obtain ⟨u0,r0,rfl,g0,u1,r1,rfl,g1,rfl⟩:=hu
 have g0':=g0
 simp only [RV] at g0'
 obtain ⟨xs,g2,rfl⟩:=g0'
 simp only [RVs] at g2
 obtain ⟨v1,q1,rfl,e1,v2,q2,rfl,e2,v3,q3,rfl,e3,v4,q4,rfl,e4,v5,q5,rfl,e5,v6,q6,rfl,e6,v7,q7,rfl,e7,rfl⟩:=g2
 obtain ⟨A,ca,rfl,hca,hA⟩:=arg_C hold (by decide) hb e6 (fun b k hb' hk => hr b k (reach_l (by simp [refsL,refs,hb'])) hk)
 obtain ⟨C',cc,rfl,hcc,hC⟩:=arg_C hcs (by decide) hb e7 (fun b k hb' hk => hr b k (reach_l (by simp [refsL,refs,hb'])) hk)
 obtain ⟨B,cb,rfl,hcb,hB⟩:=arg_C hnew (by decide) hb g1 (fun b k hb' hk => hr b k (reach_l (by simp [refsL,refs] at hb' ⊢; simp [hb'])) hk)
 have hn1:n1 = new.length:=by
  have:=g1
  simp only [RV] at this
  obtain ⟨A',c',h1,_⟩:=this
  injection h1 with _ h1 _
  exact h1.symm
 subst hn1
 refine N_in2 (L:=[inB A 15 39 old,inB B 15 39 new,inB C' 1 2 cs]) (m0:=[iR old,iR new,cR cs]) true_stable rfl (doc_x X Y S Wn Hn d1 old new cs d3 hcl) hX hb hn (fun i e h => ?_) ?_ (fun σ1 τ b u h1 h2 h hu => ?_)
 ·match i,h with
  | 0,h => simp only [List.getElem?_cons_zero,Option.some.injEq] at h; subst h; exact inB_ok hA
  | 1,h => simp only [List.getElem?_cons_succ,List.getElem?_cons_zero,Option.some.injEq] at h; subst h; exact inB_ok hB
  | 2,h => simp only [List.getElem?_cons_succ,List.getElem?_cons_zero,Option.some.injEq] at h; subst h; exact inB_ok hC
  | i + 3,h => simp at h
 ·simp only [RVs]
  refine ⟨_,_,rfl,?_,_,_,rfl,inB_va rfl hB hcb (by decide),rfl⟩
  simp only [RV,RVs] at e1 e2 e3 e4 e5 ⊢
  exact ⟨_,⟨v1,_,rfl,e1,v2,_,rfl,e2,v3,_,rfl,e3,v4,_,rfl,e4,v5,_,rfl,e5,_,_,rfl,by have:=inB_va (w:=w) (x:=σ.x) (L:=[inB A 15 39 old,inB B 15 39 new,inB C' 1 2 cs]) (i:=0) rfl hA hca (by decide); simp only [RV] at this; exact this,_,_,rfl,by have:=inB_va (w:=w) (x:=σ.x) (L:=[inB A 15 39 old,inB B 15 39 new,inB C' 1 2 cs]) (i:=2) rfl hC hcc (by decide); simp only [RV] at this; exact this,rfl⟩,rfl⟩
 ·simp only [RV] at hu
  obtain ⟨us,hu,rfl⟩:=hu
  simp only [RVs] at hu
  obtain ⟨p0,t0,rfl,f0,p1,t1,rfl,f1,rfl⟩:=hu
  simp only [RV] at f0
  obtain ⟨ys,f0,rfl⟩:=f0
  simp only [RVs] at f0
  obtain ⟨w1,z1,rfl,a1,w2,z2,rfl,a2,w3,z3,rfl,a3,w4,z4,rfl,a4,w5,z5,rfl,a5,w6,z6,rfl,a6,w7,z7,rfl,a7,rfl⟩:=f0
  have b6:=va_arg (i:=1) rfl (by decide) g1 h1 h2 a6
  have b7:=va_new h (gv_va a7)
  have i1:=a1.val_inv; have i2:=a2.val_inv; have i3:=a3.val_inv; have i4:=a4.val_inv; have i5:=a5.val_inv; have i8:=f1.val_inv
  subst i1; subst i2; subst i3; subst i4; subst i5; subst i8
  simp only [RV,RVs] at b6 b7 ⊢
  exact ⟨_,⟨_,_,rfl,⟨_,⟨_,_,rfl,rfl,_,_,rfl,rfl,_,_,rfl,rfl,_,_,rfl,rfl,_,_,rfl,rfl,_,_,rfl,b6,_,_,rfl,b7,rfl⟩,rfl⟩,_,_,rfl,rfl,rfl⟩,rfl⟩
def draw2G:List MV → (Nat → Option Blk) → (Blk → (Nat → MV) → Option Out) → Option Out:=fun args rd k => match args with
 | [.val (.slice none 0 0),.agg [.val (.int .i64 x),.val (.int .i64 y),.val (.int .i64 s),.val (.int .i64 wi),.val (.int .i64 hi)]] => bif decide (Pure.okG x y s wi hi) then
   k ⟨.recs (i64s 1) (picL [] x y s wi.toNat hi.toNat),2⟩ (fun b => .tup [.va b 0 (picL [] x y s wi.toNat hi.toNat).length 1,iv 0]) else k ⟨.recs (i64s 1) [],2⟩ (fun b => .tup [.es,iv 1])
 | _ => none
theorem draw2G_ok {X:Env}:NOk Try.prog X 28 draw2G:=by
 intro args rd k r hG
 unfold draw2G at hG
 split at hG
 ·rename_i x y s wi hi
  cases hd:decide (Pure.okG x y s wi hi) with
  | false =>
   rw [hd] at hG
   simp only [cond_false] at hG
   refine ⟨_,_,hG,rfl,fun base w0 σ us w hX hb hn hu hr => ?_⟩
   have hus:=(pls_ok (σ:=σ) [.val (.slice none 0 0),.agg [.val (.int .i64 x),.val (.int .i64 y),.val (.int .i64 s),.val (.int .i64 wi),.val (.int .i64 hi)]] _ rfl us).1 hu
   subst hus
   refine Calls.mono (raster_Draw.calls 1 none 0 [] x y s wi hi [] 1 w (Kd.C_nil _ _) (Nat.le_refl _) (Pure.draw_bad [] x y s wi hi (of_decide_eq_false hd) 1 (by decide))) ?_
   rintro e' w' ⟨v,rfl,hR,hB⟩
   refine ⟨_,rfl,.inr (fun τ b _ => ?_),hB⟩
   obtain ⟨_,hz⟩:=ints_own hR
   simp only [RV,RVs]
   refine ⟨_,⟨v,_,rfl,?_,_,_,rfl,rfl,rfl⟩,rfl⟩
   rcases hz with ⟨rfl,_⟩ | ⟨g,cap,cur,rfl,_⟩
   ·exact ⟨_,_,rfl⟩
   ·exact ⟨_,_,rfl⟩
  | true =>
   rw [hd] at hG
   simp only [cond_true] at hG
   obtain ⟨K,hK⟩:=Pure.draw_ok [] x y s wi hi (by simp) (of_decide_eq_true hd)
   refine ⟨_,_,hG,rfl,fun base w0 σ us w hX hb hn hu hr => ?_⟩
   have hus:=(pls_ok (σ:=σ) [.val (.slice none 0 0),.agg [.val (.int .i64 x),.val (.int .i64 y),.val (.int .i64 s),.val (.int .i64 wi),.val (.int .i64 hi)]] _ rfl us).1 hu
   subst hus
   refine Calls.mono (raster_Draw.calls K none 0 [] x y s wi hi _ 0 w (Kd.C_nil _ _) (Nat.le_refl _) (hK K (Nat.le_refl K))) ?_
   rintro e' w' ⟨v,rfl,hR,hB⟩
   exact ⟨_,rfl,Fresh.tup (fresh_own (l:=picL [] x y s wi.toNat hi.toNat) (by unfold picL; rw [List.length_map]; exact ints_own hR) rfl rfl) 0,hB⟩
 ·cases hG
set_option maxRecDepth 100000 in
theorem gridNf (X Y S W H:Int) (L C:MV) (c0:KM):xfun Try.prog E C0 3 42 [.ptr 0 0] [some ⟨.rlst [iv X,iv Y,iv S,iv W,iv H,L,C],90⟩] c0 =
  c0 (MV.agg [iv X,iv Y,iv S,iv W,iv H]) [some { row:=Row.rlst [iv X,iv Y,iv S,iv W,iv H,L,C],ty:=90 },some { row:=Row.lst [iv X,iv Y,iv S,iv W,iv H],ty:=44 }]:=by kernel_rfl
def gridF:List MV → Nat → Nat → List MV → Option MV:=fun cells ty o ps => match cells,ty,o,ps with
 | [.val (.int .i64 X),.val (.int .i64 Y),.val (.int .i64 S),.val (.int .i64 W),.val (.int .i64 H),L,C],90,0,[] => some (.agg [iv X,iv Y,iv S,iv W,iv H])
 | _,_,_,_ => none
theorem gridF_ok:QOk Try.prog C0.env 42 (toR1 gridF):=by
 refine Q_one true_stable (fun cells ty o ps v h => ?_)
 unfold gridF at h
 split at h
 ·rename_i X Y S W H L C
  simp only [Option.some.injEq] at h
  subst h
  refine ⟨⟨_,rfl⟩,⟨_,rfl⟩,?_⟩
  apply XF.of_x E_ok (C0_ok _) mixed (n:=3)
  ·intro k
   rw [gridNf]
  ·rfl
 ·cases h
def nwB (X Y S W H:Int) (b nc:Nat):Option Blk:=some ⟨.lst [iv X,iv Y,iv S,iv W,iv H,.val (.slice none 0 0),.va b 0 nc 1],73⟩
noncomputable def c39:Code:=bodyOf Try.f39
theorem c39_eq:c39 = .seq (cut c39 [0]) (.seq (cut c39 [1,0]) .ret):=by kernel_rfl
set_option maxRecDepth 100000 in
theorem nw0 (X Y S W H:Int) (kk:KE):xcode Try.prog E C0 8 (cut c39 [0]) ([.agg [iv X,iv Y,iv S,iv W,iv H]] ++ List.replicate 10 (.val undef)) [] (nk 0 [1,2] [0,1] kk) = kk .normal ([.junk,.ptr 0 0,.ptr 1 0] ++ J 8) [some ⟨.lst [iv X,iv Y,iv S,iv W,iv H],46⟩,zB]:=by kernel_rfl
set_option maxRecDepth 100000 in
theorem nw1 (X Y S W H:Int) (kk:KE):xcode Try.prog E C0 8 (cut c39 [1,0]) ([.junk,.ptr 0 0,.ptr 1 0] ++ J 8) [some ⟨.lst [iv X,iv Y,iv S,iv W,iv H],46⟩,zB] (nk 0 [2] [8,1] kk) = bif decide (IntKind.wrap IntKind.i64 (W * H) = IntKind.wrap IntKind.i64 (W * H) ∧ 0 ≤ IntKind.wrap IntKind.i64 (W * H) ∧ IntKind.wrap IntKind.i64 (W * H) ≤ 16777216) then kk .normal (J 2 ++ [.ptr 1 0] ++ J 8) [csB (List.replicate (Int.toNat (IntKind.wrap IntKind.i64 (W * H))) [0]),nwB X Y S W H 0 (Int.toNat (IntKind.wrap IntKind.i64 (W * H)))] else none:=by kernel_rfl
theorem nw_res (X Y S W H:Int) (n:Nat) (s:List (List Int)):xres Try.prog (J 2 ++ [.ptr 1 0] ++ J 8) [csB s,nwB X Y S W H 0 n] Try.f39.results.toList = some [.agg [iv X,iv Y,iv S,iv W,iv H,.val (.slice none 0 0),.va 0 0 n 1]]:=by kernel_rfl
theorem pic0_rep (X Y S:Int) (W H:Nat):picL [] X Y S W H = List.replicate (H * W) [0]:=by
 refine List.eq_replicate_iff.2 ⟨picL_len _ _ _ _ _ _,fun b hb => ?_⟩
 obtain ⟨j,hj⟩:=List.getElem?_of_mem hb
 have hjl:=(List.getElem?_eq_some_iff.1 hj).1
 rw [picL_len] at hjl
 have hW:0 < W:=by
  rcases Nat.eq_zero_or_pos W with h | h
  ·rw [h] at hjl; simp at hjl
  ·exact h
 have hc:j % W < W:=Nat.mod_lt _ hW
 have hr:j / W < H:=(Nat.div_lt_iff_lt_mul hW).2 hjl
 have e:j = j / W * W + j % W:=(Nat.div_add_mod' j W).symm
 rw [e,picL_get [] X Y S W H hc hr] at hj
 simp only [Option.some.injEq] at hj
 rw [← hj]
 rfl
theorem new_x (X Y S:Int) (W H:Nat) (hG:Pure.okG X Y S (W:Int) (H:Int)):XF Try.prog C0.env 39 [.agg [iv X,iv Y,iv S,iv W,iv H]] []
  (fun v m' => v = .agg [iv X,iv Y,iv S,iv W,iv H,.val (.slice none 0 0),.va 0 0 (picL [] X Y S W H).length 1] ∧ ∃ r,m' = [] ++ (some ⟨.recs (i64s 1) (picL [] X Y S W H),2⟩ :: r)):=by
 have hHW:=grid_HW' hG
 refine XF.of_codeN Try.func39 (c:=c39) (by kernel_rfl) ?_
 refine XN.cast c39_eq ?_
 refine XN.seq_xn E_ok (C0_ok _) mixed (fun kk => nw0 X Y S W H kk) ?_
 have hw:IntKind.wrap IntKind.i64 ((W:Int) * (H:Int)) = ((H * W:Nat):Int):=by rw [← hHW.2]; exact w6_id (n:=((H * W:Nat):Int)) (by omega) (by omega)
 have c1:decide (((H * W:Nat):Int) = ((H * W:Nat):Int) ∧ 0 ≤ ((H * W:Nat):Int) ∧ ((H * W:Nat):Int) ≤ 16777216) = true:=decide_eq_true ⟨rfl,by omega,by omega⟩
 have hl:(picL [] X Y S W H).length = H * W:=picL_len _ _ _ _ _ _
 refine XN.seq_xn E_ok (C0_ok _) mixed (tm':=J 2 ++ [.ptr 1 0] ++ J 8) (m':=[csB (picL [] X Y S W H),nwB X Y S W H 0 (picL [] X Y S W H).length]) (fun kk => (nw1 X Y S W H kk).trans (by rw [hw,c1,Int.toNat_natCast,hl,pic0_rep]; rfl)) ?_
 exact XN.of_x (n:=1) (e:=.ret) E_ok (C0_ok _) mixed (fun kk => rfl) ⟨_,nw_res X Y S W H _ _,rfl,_,rfl⟩
def newN:List MV → (Nat → Option Blk) → (Blk → (Nat → MV) → Option Out) → Option Out:=fun args rd k => match args with
 | [.agg [.val (.int .i64 X),.val (.int .i64 Y),.val (.int .i64 S),.val (.int .i64 W),.val (.int .i64 H)]] => bif decide (Pure.okG X Y S W H) then
   k ⟨.recs (i64s 1) (picL [] X Y S W.toNat H.toNat),2⟩ (fun b => .agg [iv X,iv Y,iv S,iv W,iv H,.val (.slice none 0 0),.va b 0 (picL [] X Y S W.toNat H.toNat).length 1]) else none
 | _ => none
theorem newN_ok:NOk Try.prog C0.env 39 newN:=by
 intro args rd k r hG
 unfold newN at hG
 split at hG
 case h_2 => cases hG
 rename_i X Y S W H
 cases hd:decide (Pure.okG X Y S W H) with
 | false => rw [hd] at hG; cases hG
 | true =>
 rw [hd] at hG
 simp only [cond_true] at hG
 have d1:=of_decide_eq_true hd
 obtain ⟨Wn,rfl⟩:∃ n:Nat,W = n:=⟨W.toNat,by obtain ⟨g,_⟩:=d1; omega⟩
 obtain ⟨Hn,rfl⟩:∃ n:Nat,H = n:=⟨H.toNat,by obtain ⟨_,g,_⟩:=d1; omega⟩
 refine ⟨_,_,hG,rfl,fun base w0 σ us w hX hb hn hu hr => ?_⟩
 have hus:=(pls_ok (σ:=σ) [.agg [iv X,iv Y,iv S,iv (Wn:Int),iv (Hn:Int)]] _ rfl us).1 hu
 subst hus
 refine N_in2 (L:=[]) (m0:=[]) true_stable rfl (new_x X Y S Wn Hn d1) hX hb hn (fun i e h => by simp at h) ((pls_ok _ _ rfl _).2 rfl) (fun σ1 τ b u h1 h2 h hu => ?_)
 simp only [RV] at hu
 obtain ⟨us,hu,rfl⟩:=hu
 simp only [RVs] at hu
 obtain ⟨w1,z1,rfl,a1,w2,z2,rfl,a2,w3,z3,rfl,a3,w4,z4,rfl,a4,w5,z5,rfl,a5,w6,z6,rfl,a6,w7,z7,rfl,a7,rfl⟩:=hu
 have b7:=va_new h a7
 have i1:=a1.val_inv; have i2:=a2.val_inv; have i3:=a3.val_inv; have i4:=a4.val_inv; have i5:=a5.val_inv; have i6:=a6.val_inv
 subst i1; subst i2; subst i3; subst i4; subst i5; subst i6
 simp only [RV,RVs] at b7 ⊢
 exact ⟨_,⟨_,_,rfl,rfl,_,_,rfl,rfl,_,_,rfl,rfl,_,_,rfl,rfl,_,_,rfl,rfl,_,_,rfl,rfl,_,_,rfl,b7,rfl⟩,rfl⟩
noncomputable def S1:Ctx:=addI C0 36 showH
theorem S1_ok:COk Try.prog S1:=addI_ok (C0_ok _) showH_ok (fnOk_of Try.func36 (by kernel_rfl) (by kernel_rfl))
noncomputable def S2:Ctx:=addN S1 28 draw2G
theorem S2_ok:COk Try.prog S2:=addN_ok S1_ok draw2G_ok (fnOk_of Try.func28 (by kernel_rfl) (by kernel_rfl))
noncomputable def S3:Ctx:=addI S2 35 (inlG Try.prog E S2 3 35)
theorem S3_ok:COk Try.prog S3:=addI_ok S2_ok (inl_ok E_ok S2_ok mixed _ _) (fnOk_of Try.func35 (by kernel_rfl) (by kernel_rfl))
noncomputable def S4:Ctx:=addN S3 38 cellsN
theorem S4_ok:COk Try.prog S4:=addN_ok S3_ok cellsN_ok (fnOk_of Try.func38 (by kernel_rfl) (by kernel_rfl))
noncomputable def S5:Ctx:=addR S4 37 sameG
theorem S5_ok:COk Try.prog S5:=addR_ok S4_ok sameG_ok (fnOk_of Try.func37 (by kernel_rfl) (by kernel_rfl))
noncomputable def S6:Ctx:=addQ S5 27 rightP
theorem S6_ok:COk Try.prog S6:=addQ_ok S5_ok rightP_ok (fnOk_of Try.func27 (by kernel_rfl) (by kernel_rfl))
noncomputable def S7:Ctx:=addN S6 40 docN
theorem S7_ok:COk Try.prog S7:=addN_ok S6_ok docN_ok (fnOk_of Try.func40 (by kernel_rfl) (by kernel_rfl))
noncomputable def S8:Ctx:=addN S7 39 newN
theorem S8_ok:COk Try.prog S8:=addN_ok S7_ok newN_ok (fnOk_of Try.func39 (by kernel_rfl) (by kernel_rfl))
noncomputable def S9:Ctx:=addI S8 34 (inlG Try.prog E S8 7 34)
theorem S9_ok:COk Try.prog S9:=addI_ok S8_ok (inl_ok E_ok S8_ok mixed _ _) (fnOk_of Try.func34 (by kernel_rfl) (by kernel_rfl))
noncomputable def S10:Ctx:=addQ S9 33 awakeG
theorem S10_ok:COk Try.prog S10:=addQ_ok S9_ok awakeG_ok (fnOk_of Try.func33 (by kernel_rfl) (by kernel_rfl))
noncomputable def S11:Ctx:=addI S10 41 (inlG Try.prog E S10 3 41)
theorem S11_ok:COk Try.prog S11:=addI_ok S10_ok (inl_ok E_ok S10_ok mixed _ _) (fnOk_of Try.func41 (by kernel_rfl) (by kernel_rfl))
noncomputable def S12:Ctx:=addR S11 42 (toR1 gridF)
theorem S12_ok:COk Try.prog S12:=addR_ok S11_ok gridF_ok (fnOk_of Try.func42 (by kernel_rfl) (by kernel_rfl))
end Go.Proofs.Ytppklhfiajjhmaa.Ti
end
section
namespace Go.Proofs.Ytppklhfiajjhmaa.Ti
open Go Go.RowKit Go.Proofs.Ytppklhfiajjhmaa.Y
set_option linter.unusedVariables false
set_option linter.unusedSimpArgs false
noncomputable def c12:Code:=bodyOf Try.f12
def oM (ts:List (List (List Int))):Mem:=some ⟨.rlst (ts.zipIdx.map fun p => .va (p.2 + 1) 0 p.1.length 15),22⟩ :: ts.map iR
def qG (X Y S W H:Int):Option Blk:=some ⟨.lst [iv X,iv Y,iv S,iv W,iv H],44⟩
def wX (X Y S W H:Int) (L:MV) (c nc ty:Nat):Option Blk:=some ⟨.lst [iv X,iv Y,iv S,iv W,iv H,L,.va c 0 nc 1],ty⟩
def nilV:MV:=.val (.slice none 0 0)
def s1_ (a:MV) (g:Nat) (row k:Int) (r:Bool):List MV:=[.junk,a,iv row,iv k,.ptr g 0,.junk,.junk,.junk,.val (.bool r)] ++ J 144
def s3_ (a:MV) (g:Nat) (row k:Int) (p:MV) (e:Int):List MV:=[.junk,a,iv row,iv k,.ptr g 0,.junk,.junk,.junk,.val (.bool false),p,iv e] ++ J 142
def s6_ (a:MV) (g b:Nat) (row k:Int) (r:Bool):List MV:=[.junk,a,iv row,iv k,.ptr g 0,.junk,.junk,.junk,.val (.bool r),.ptr b 0] ++ J 143
def s8_ (a:MV) (g b d:Nat) (row k:Int):List MV:=[.junk,a,iv row,iv k,.ptr g 0,.junk,.junk,.junk,.val (.bool false),.ptr b 0,.junk,.ptr d 0] ++ J 141
def sL_ (a:MV) (n g b d:Nat) (row k i:Int):List MV:=[.junk,a,iv row,iv k,.ptr g 0,.junk,.junk,.junk,.val (.bool false),.ptr b 0,.junk,.ptr d 0] ++ J 44 ++ [iv n,iv i] ++ J 95
def r8_ (r:Bool):List MV:=J 8 ++ [.val (.bool r)] ++ J 144
def f_ (row k:Int):List MV:=[.junk,.junk,iv row,iv k,.ptr 0 0,.junk,.junk,.junk,.junk,.ptr 1 0,.junk,.ptr 3 0] ++ J 141
def f8_ (row k c:Int) (ok:Bool):List MV:=[.junk,.junk,iv row,iv k,.ptr 0 0,.junk,.junk,.junk,.junk,.ptr 1 0,.junk,.ptr 3 0,.junk,.junk,.junk,.junk,iv c,.val (.bool ok)] ++ J 135
def f9_ (row k c:Int) (ok th:Bool):List MV:=[.junk,.junk,iv row,iv k,.ptr 0 0,.junk,.junk,.junk,.junk,.ptr 1 0,.junk,.ptr 3 0,.junk,.junk,.junk,.junk,iv c,.val (.bool ok),.val (.bool th)] ++ J 134
def fM (X Y S W H:Int) (nc:Nat) (cs:List (List Int)):Mem:=[qG X Y S W H,wX X Y S W H .any 2 nc 90,csB cs,wX X Y S W H .any 4 nc 73,csB cs]
abbrev mH (W H:Int):Int:=IntKind.wrap IntKind.i64 (W * H)
abbrev at_ (row k W:Int):Int:=IntKind.wrap IntKind.i64 (IntKind.wrap IntKind.i64 (row * W) + k)
def fewR:List (List (List Int)) → Option Out → Option Out → Option Out
 | [],x,y => y
 | t :: ts,x,y => bif decide ((t.length:Int) > 5) then x else fewR ts x y
def itR (X Y S W H:Int) (old t cs:List (List Int)) (q:List (List Int) × Int) (x y:Option Out):Option Out :=
 bif showOk X Y S W H old.length t.length cs.length cs old t then bif old.length == old.length && (cs.length == cs.length && t.length == t.length) then bif docOk X Y S W H old t cs then
  bif q.2 != q.2 then x else bif decide (q.1.length = cs.length ∧ q.1.length ≤ 1000000) then bif q.1.length == q.1.length then bif q.1.length == cs.length then bif decide (q.1.length ≤ 1000000 ∧ q.1.length ≤ 1000000) then bif !sameB q.1 q.1 then x else y
  else none else none else none else none else none else none else none
def pic0 (X Y S W H:Int):List (List Int):=picL [] X Y S (Int.toNat W) (Int.toNat H)
def Does (c:Code) (tm:List MV) (m:Mem) (R:KE → Option Out):Prop:=∃ K rs,∀ kk:KE,xcode Try.prog E S12 8 c tm m (nk 0 K rs kk) = R kk
def stM (pre:Mem) (L:Nat) (l:Nat) (X Y S W H:Int) (old cs:List (List Int)) (nc:Nat):Mem:=pre ++ [qG X Y S W H,wX X Y S W H (.va (L + 5) 0 old.length 15) (L + 2) nc 90,csB cs,wX X Y S W H (.va l 0 old.length 15) (L + 4) nc 73,csB cs,iB old]
def dlF (L:Nat):Nat → Nat
 | 0 => L + 5
 | i + 1 => i + 1
def oldF (ts:List (List (List Int))):Nat → List (List Int)
 | 0 => []
 | i + 1 => ts.getD i []
structure Runs (n L:Nat) (a:MV) (pre:Mem) (ts:List (List (List Int))) (X Y S W H row k:Int):Prop where
 f0:Does (cut c12 [0]) ([.agg [iv X,iv Y,iv S,iv W,iv H],a,iv row,iv k] ++ List.replicate 149 (.val undef)) pre (fun kk => kk .normal (s1_ a L row k false) (pre ++ [qG X Y S W H]))
 f1:Does (cut c12 [1,0]) (s1_ a L row k false) (pre ++ [qG X Y S W H]) (fun kk => fewR ts (kk .ret (s1_ a L row k true) (pre ++ [qG X Y S W H])) (kk .normal (s1_ a L row k false) (pre ++ [qG X Y S W H])))
 f3:Does (cut c12 [1,1,0]) (s1_ a L row k false) (pre ++ [qG X Y S W H]) (fun kk => bif decide (Pure.okG X Y S W H) then kk .normal (s3_ a L row k (.ptr (L + 1) 0) 0) (pre ++ [qG X Y S W H,wX X Y S W H nilV (L + 2) (pic0 X Y S W H).length 90,csB (pic0 X Y S W H)]) else kk .normal (s3_ a L row k (.val (.pointer none)) 1) (pre ++ [qG X Y S W H,none,csB []]))
 f4:∀ nc cs,Does (cut c12 [1,1,1,0]) (s3_ a L row k (.ptr (L + 1) 0) 0) (pre ++ [qG X Y S W H,wX X Y S W H nilV (L + 2) nc 90,csB cs]) (fun kk => bif !decide (Pure.okG X Y S W H) then kk .ret (s3_ a L row k (.ptr (L + 1) 0) 0) (pre ++ [qG X Y S W H,wX X Y S W H nilV (L + 2) nc 90,csB cs]) else kk .normal (s3_ a L row k (.ptr (L + 1) 0) 0) (pre ++ [qG X Y S W H,wX X Y S W H nilV (L + 2) nc 90,csB cs]))
 f4b:Does (cut c12 [1,1,1,0]) (s3_ a L row k (.val (.pointer none)) 1) (pre ++ [qG X Y S W H,none,csB []]) (fun kk => bif !decide (Pure.okG X Y S W H) then kk .ret (r8_ true) [] else kk .normal (r8_ false) [])
 f6:∀ nc cs,Does (cut c12 [1,1,1,1,0]) (s3_ a L row k (.ptr (L + 1) 0) 0) (pre ++ [qG X Y S W H,wX X Y S W H nilV (L + 2) nc 90,csB cs]) (fun kk => bif decide (mH W H > 200) then kk .ret (s6_ a L (L + 1) row k ((0:Int) == 0)) (pre ++ [qG X Y S W H,wX X Y S W H nilV (L + 2) nc 90,csB cs]) else kk .normal (s6_ a L (L + 1) row k false) (pre ++ [qG X Y S W H,wX X Y S W H nilV (L + 2) nc 90,csB cs]))
 f8:∀ nc cs,Does (cut c12 [1,1,1,1,1,0]) (s6_ a L (L + 1) row k false) (pre ++ [qG X Y S W H,wX X Y S W H nilV (L + 2) nc 90,csB cs]) (fun kk => bif decide (Pure.okG X Y S W H) then kk .normal (s8_ a L (L + 1) (L + 3) row k) (pre ++ [qG X Y S W H,wX X Y S W H nilV (L + 2) nc 90,csB cs,wX X Y S W H nilV (L + 4) (pic0 X Y S W H).length 73,csB (pic0 X Y S W H)]) else none)
 f9:∀ nc cs,Does (cut c12 [1,1,1,1,1,1,0,0]) (s8_ a L (L + 1) (L + 3) row k) (pre ++ [qG X Y S W H,wX X Y S W H nilV (L + 2) nc 90,csB cs,wX X Y S W H nilV (L + 4) nc 73,csB cs]) (fun kk => kk .normal (sL_ a n L (L + 1) (L + 3) row k 0) (pre ++ [qG X Y S W H,wX X Y S W H nilV (L + 2) nc 90,csB cs,wX X Y S W H nilV (L + 4) nc 73,csB cs]))
 it:∀ i,i < n → ∀ cs,Does (cut c12 [1,1,1,1,1,1,0,1,0,0]) (sL_ a n L (L + 1) (L + 3) row k i) (stM pre L (dlF L i) X Y S W H (oldF ts i) cs cs.length) (fun kk => itR X Y S W H (oldF ts i) (ts.getD i []) cs (showR X Y S W H (ts.getD i []) (harmL (oldF ts i) (ts.getD i [])) (cs,0))
  (kk .ret (sL_ a n L (L + 1) (L + 3) row k i) (stM pre L (i + 1) X Y S W H (ts.getD i []) (showR X Y S W H (ts.getD i []) (harmL (oldF ts i) (ts.getD i [])) (cs,0)).1 cs.length))
  (kk .normal (sL_ a n L (L + 1) (L + 3) row k (IntKind.wrap IntKind.i64 ((i:Int) + 1))) (stM pre L (i + 1) X Y S W H (ts.getD i []) (showR X Y S W H (ts.getD i []) (harmL (oldF ts i) (ts.getD i [])) (cs,0)).1 cs.length)))
 ex:∀ old cs nc,Does (cut c12 [1,1,1,1,1,1,0,1,0,0]) (sL_ a n L (L + 1) (L + 3) row k n) (stM pre L (dlF L n) X Y S W H old cs nc) (fun kk => kk (.exit 0) (sL_ a n L (L + 1) (L + 3) row k n) (stM pre L (dlF L n) X Y S W H old cs nc))
 fin:∀ nc cs old,∃ K rs,normChk 0 (memb K) rs (sL_ a n L (L + 1) (L + 3) row k n) (pre ++ [qG X Y S W H,wX X Y S W H .any (L + 2) nc 90,csB cs,wX X Y S W H .any (L + 4) nc 73,csB cs,iB old]) = true ∧ normT (memb K) (posn rs) 0 (sL_ a n L (L + 1) (L + 3) row k n) = f_ row k ∧ normM (posn rs) rs (pre ++ [qG X Y S W H,wX X Y S W H .any (L + 2) nc 90,csB cs,wX X Y S W H .any (L + 4) nc 73,csB cs,iB old]) = fM X Y S W H nc cs
set_option maxRecDepth 100000 in
theorem runs0 (X Y S W H row k:Int):Runs 0 0 .es [] [] X Y S W H row k where
 f0:=⟨[1,2,3,4,8],[0],fun kk => by kernel_rfl⟩
 f1:=⟨[1,2,3,4,8],[0],fun kk => by kernel_rfl⟩
 f3:=⟨[1,2,3,4,8,9,10],[0,3,2],fun kk => by kernel_rfl⟩
 f4 nc cs:=⟨[1,2,3,4,8,9,10],[0,1,2],fun kk => by kernel_rfl⟩
 f4b:=⟨[8],[],fun kk => by kernel_rfl⟩
 f6 nc cs:=⟨[1,2,3,4,8,9],[0,1,2],fun kk => by kernel_rfl⟩
 f8 nc cs:=⟨[1,2,3,4,8,9,11],[0,1,2,4,3],fun kk => by kernel_rfl⟩
 f9 nc cs:=⟨[1,2,3,4,8,9,11,56,57],[0,1,2,3,4],fun kk => by kernel_rfl⟩
 it i hi cs:=absurd hi (Nat.not_lt_zero i)
 ex old cs nc:=⟨[1,2,3,4,8,9,11,56,57],[0,1,2,3,4,5],fun kk => by kernel_rfl⟩
 fin nc cs old:=⟨[2,3,4,9,11],[0,1,2,3,4],by kernel_rfl,by kernel_rfl,by kernel_rfl⟩
set_option maxRecDepth 100000 in
theorem runs1 (c:Nat) (t1:List (List Int)) (X Y S W H row k:Int):Runs 1 2 (.sl 0 0 1 c) (oM [t1]) [t1] X Y S W H row k where
 f0:=⟨[1,2,3,4,8],[0,1,2],fun kk => by kernel_rfl⟩
 f1:=⟨[1,2,3,4,8],[0,1,2],fun kk => by kernel_rfl⟩
 f3:=⟨[1,2,3,4,8,9,10],[0,1,2,5,4],fun kk => by kernel_rfl⟩
 f4 nc cs:=⟨[1,2,3,4,8,9,10],[0,1,2,3,4],fun kk => by kernel_rfl⟩
 f4b:=⟨[8],[],fun kk => by kernel_rfl⟩
 f6 nc cs:=⟨[1,2,3,4,8,9],[0,1,2,3,4],fun kk => by kernel_rfl⟩
 f8 nc cs:=⟨[1,2,3,4,8,9,11],[0,1,2,3,4,6,5],fun kk => by kernel_rfl⟩
 f9 nc cs:=⟨[1,2,3,4,8,9,11,56,57],[0,1,2,3,4,5,6],fun kk => by kernel_rfl⟩
 it i hi cs:=by
  match i,hi with
  | 0,_ => exact ⟨[1,2,3,4,8,9,11,56,57],[0,1,2,3,4,5,15,9],fun kk => by kernel_rfl⟩
  | q + 1,h => omega
 ex old cs nc:=⟨[1,2,3,4,8,9,11,56,57],[0,1,2,3,4,5,6,7],fun kk => by kernel_rfl⟩
 fin nc cs old:=⟨[2,3,4,9,11],[2,3,4,5,6],by kernel_rfl,by kernel_rfl,by kernel_rfl⟩
set_option maxRecDepth 100000 in
theorem runs2 (c:Nat) (t1 t2:List (List Int)) (X Y S W H row k:Int):Runs 2 3 (.sl 0 0 2 c) (oM [t1,t2]) [t1,t2] X Y S W H row k where
 f0:=⟨[1,2,3,4,8],[0,1,2,3],fun kk => by kernel_rfl⟩
 f1:=⟨[1,2,3,4,8],[0,1,2,3],fun kk => by kernel_rfl⟩
 f3:=⟨[1,2,3,4,8,9,10],[0,1,2,3,6,5],fun kk => by kernel_rfl⟩
 f4 nc cs:=⟨[1,2,3,4,8,9,10],[0,1,2,3,4,5],fun kk => by kernel_rfl⟩
 f4b:=⟨[8],[],fun kk => by kernel_rfl⟩
 f6 nc cs:=⟨[1,2,3,4,8,9],[0,1,2,3,4,5],fun kk => by kernel_rfl⟩
 f8 nc cs:=⟨[1,2,3,4,8,9,11],[0,1,2,3,4,5,7,6],fun kk => by kernel_rfl⟩
 f9 nc cs:=⟨[1,2,3,4,8,9,11,56,57],[0,1,2,3,4,5,6,7],fun kk => by kernel_rfl⟩
 it i hi cs:=by
  match i,hi with
  | 0,_ => exact ⟨[1,2,3,4,8,9,11,56,57],[0,1,2,3,4,5,6,16,10],fun kk => by kernel_rfl⟩
  | 1,_ => exact ⟨[1,2,3,4,8,9,11,56,57],[0,1,2,3,4,5,6,16,10],fun kk => by kernel_rfl⟩
  | q + 2,h => omega
 ex old cs nc:=⟨[1,2,3,4,8,9,11,56,57],[0,1,2,3,4,5,6,7,8],fun kk => by kernel_rfl⟩
 fin nc cs old:=⟨[2,3,4,9,11],[3,4,5,6,7],by kernel_rfl,by kernel_rfl,by kernel_rfl⟩
set_option maxRecDepth 100000 in
theorem runs3 (c:Nat) (t1 t2 t3:List (List Int)) (X Y S W H row k:Int):Runs 3 4 (.sl 0 0 3 c) (oM [t1,t2,t3]) [t1,t2,t3] X Y S W H row k where
 f0:=⟨[1,2,3,4,8],[0,1,2,3,4],fun kk => by kernel_rfl⟩
 f1:=⟨[1,2,3,4,8],[0,1,2,3,4],fun kk => by kernel_rfl⟩
 f3:=⟨[1,2,3,4,8,9,10],[0,1,2,3,4,7,6],fun kk => by kernel_rfl⟩
 f4 nc cs:=⟨[1,2,3,4,8,9,10],[0,1,2,3,4,5,6],fun kk => by kernel_rfl⟩
 f4b:=⟨[8],[],fun kk => by kernel_rfl⟩
 f6 nc cs:=⟨[1,2,3,4,8,9],[0,1,2,3,4,5,6],fun kk => by kernel_rfl⟩
 f8 nc cs:=⟨[1,2,3,4,8,9,11],[0,1,2,3,4,5,6,8,7],fun kk => by kernel_rfl⟩
 f9 nc cs:=⟨[1,2,3,4,8,9,11,56,57],[0,1,2,3,4,5,6,7,8],fun kk => by kernel_rfl⟩
 it i hi cs:=by
  match i,hi with
  | 0,_ => exact ⟨[1,2,3,4,8,9,11,56,57],[0,1,2,3,4,5,6,7,17,11],fun kk => by kernel_rfl⟩
  | 1,_ => exact ⟨[1,2,3,4,8,9,11,56,57],[0,1,2,3,4,5,6,7,17,11],fun kk => by kernel_rfl⟩
  | 2,_ => exact ⟨[1,2,3,4,8,9,11,56,57],[0,1,2,3,4,5,6,7,17,11],fun kk => by kernel_rfl⟩
  | q + 3,h => omega
 ex old cs nc:=⟨[1,2,3,4,8,9,11,56,57],[0,1,2,3,4,5,6,7,8,9],fun kk => by kernel_rfl⟩
 fin nc cs old:=⟨[2,3,4,9,11],[4,5,6,7,8],by kernel_rfl,by kernel_rfl,by kernel_rfl⟩
set_option maxRecDepth 100000 in
theorem runs4 (c:Nat) (t1 t2 t3 t4:List (List Int)) (X Y S W H row k:Int):Runs 4 5 (.sl 0 0 4 c) (oM [t1,t2,t3,t4]) [t1,t2,t3,t4] X Y S W H row k where
 f0:=⟨[1,2,3,4,8],[0,1,2,3,4,5],fun kk => by kernel_rfl⟩
 f1:=⟨[1,2,3,4,8],[0,1,2,3,4,5],fun kk => by kernel_rfl⟩
 f3:=⟨[1,2,3,4,8,9,10],[0,1,2,3,4,5,8,7],fun kk => by kernel_rfl⟩
 f4 nc cs:=⟨[1,2,3,4,8,9,10],[0,1,2,3,4,5,6,7],fun kk => by kernel_rfl⟩
 f4b:=⟨[8],[],fun kk => by kernel_rfl⟩
 f6 nc cs:=⟨[1,2,3,4,8,9],[0,1,2,3,4,5,6,7],fun kk => by kernel_rfl⟩
 f8 nc cs:=⟨[1,2,3,4,8,9,11],[0,1,2,3,4,5,6,7,9,8],fun kk => by kernel_rfl⟩
 f9 nc cs:=⟨[1,2,3,4,8,9,11,56,57],[0,1,2,3,4,5,6,7,8,9],fun kk => by kernel_rfl⟩
 it i hi cs:=by
  match i,hi with
  | 0,_ => exact ⟨[1,2,3,4,8,9,11,56,57],[0,1,2,3,4,5,6,7,8,18,12],fun kk => by kernel_rfl⟩
  | 1,_ => exact ⟨[1,2,3,4,8,9,11,56,57],[0,1,2,3,4,5,6,7,8,18,12],fun kk => by kernel_rfl⟩
  | 2,_ => exact ⟨[1,2,3,4,8,9,11,56,57],[0,1,2,3,4,5,6,7,8,18,12],fun kk => by kernel_rfl⟩
  | 3,_ => exact ⟨[1,2,3,4,8,9,11,56,57],[0,1,2,3,4,5,6,7,8,18,12],fun kk => by kernel_rfl⟩
  | q + 4,h => omega
 ex old cs nc:=⟨[1,2,3,4,8,9,11,56,57],[0,1,2,3,4,5,6,7,8,9,10],fun kk => by kernel_rfl⟩
 fin nc cs old:=⟨[2,3,4,9,11],[5,6,7,8,9],by kernel_rfl,by kernel_rfl,by kernel_rfl⟩
set_option maxRecDepth 100000 in
theorem runs5 (c:Nat) (t1 t2 t3 t4 t5:List (List Int)) (X Y S W H row k:Int):Runs 5 6 (.sl 0 0 5 c) (oM [t1,t2,t3,t4,t5]) [t1,t2,t3,t4,t5] X Y S W H row k where
 f0:=⟨[1,2,3,4,8],[0,1,2,3,4,5,6],fun kk => by kernel_rfl⟩
 f1:=⟨[1,2,3,4,8],[0,1,2,3,4,5,6],fun kk => by kernel_rfl⟩
 f3:=⟨[1,2,3,4,8,9,10],[0,1,2,3,4,5,6,9,8],fun kk => by kernel_rfl⟩
 f4 nc cs:=⟨[1,2,3,4,8,9,10],[0,1,2,3,4,5,6,7,8],fun kk => by kernel_rfl⟩
 f4b:=⟨[8],[],fun kk => by kernel_rfl⟩
 f6 nc cs:=⟨[1,2,3,4,8,9],[0,1,2,3,4,5,6,7,8],fun kk => by kernel_rfl⟩
 f8 nc cs:=⟨[1,2,3,4,8,9,11],[0,1,2,3,4,5,6,7,8,10,9],fun kk => by kernel_rfl⟩
 f9 nc cs:=⟨[1,2,3,4,8,9,11,56,57],[0,1,2,3,4,5,6,7,8,9,10],fun kk => by kernel_rfl⟩
 it i hi cs:=by
  match i,hi with
  | 0,_ => exact ⟨[1,2,3,4,8,9,11,56,57],[0,1,2,3,4,5,6,7,8,9,19,13],fun kk => by kernel_rfl⟩
  | 1,_ => exact ⟨[1,2,3,4,8,9,11,56,57],[0,1,2,3,4,5,6,7,8,9,19,13],fun kk => by kernel_rfl⟩
  | 2,_ => exact ⟨[1,2,3,4,8,9,11,56,57],[0,1,2,3,4,5,6,7,8,9,19,13],fun kk => by kernel_rfl⟩
  | 3,_ => exact ⟨[1,2,3,4,8,9,11,56,57],[0,1,2,3,4,5,6,7,8,9,19,13],fun kk => by kernel_rfl⟩
  | 4,_ => exact ⟨[1,2,3,4,8,9,11,56,57],[0,1,2,3,4,5,6,7,8,9,19,13],fun kk => by kernel_rfl⟩
  | q + 5,h => omega
 ex old cs nc:=⟨[1,2,3,4,8,9,11,56,57],[0,1,2,3,4,5,6,7,8,9,10,11],fun kk => by kernel_rfl⟩
 fin nc cs old:=⟨[2,3,4,9,11],[6,7,8,9,10],by kernel_rfl,by kernel_rfl,by kernel_rfl⟩
end Go.Proofs.Ytppklhfiajjhmaa.Ti
end
section
namespace Go.Proofs.Ytppklhfiajjhmaa.Ti
open Go Go.RowKit Go.Proofs.Ytppklhfiajjhmaa.Y Go.Proofs.Ytppklhfiajjhmaa.AskWords Go.Proofs.Ytppklhfiajjhmaa.Reads
set_option linter.unusedVariables false
set_option linter.unusedSimpArgs false
structure In1 where
 A:Option Addr
 c:Nat
 it:List (List Int)
def In1.ok (w:World) (e:In1):Prop:=e.it.length ≤ e.c ∧ InAt w e.A (rowsV (i64s 15) e.it)
def In1.v (e:In1):Value:=.slice e.A e.it.length e.c
def In1.b (e:In1):InB:=⟨e.A,⟨.rrecs (i64s 15) e.it,39⟩,rowsV (i64s 15) e.it⟩
theorem in1 {w:World} {A:Option Addr} {c:Nat} {ys:List (List Value)} (hc:ys.length ≤ c) (h:Go.Proofs.Ytppklhfiajjhmaa.Reads.Rows w A 15 (List.replicate 15 isI64) ys):∃ e:In1,e.ok w ∧ e.v = .slice A ys.length c ∧ e.it.length = ys.length:=by
 obtain ⟨it,h1,h2,_⟩:=rows_in h (by omega)
 exact ⟨⟨A,c,it⟩,⟨by rw [h1]; exact hc,h2⟩,by unfold In1.v; rw [h1],h1⟩
theorem in1s {w:World}:∀ xs:List Value,(∀ x ∈ xs,∃ (A':Option Addr) (c':Nat) (ys:List (List Value)),x = .slice A' ys.length c' ∧ ys.length ≤ c' ∧ Go.Proofs.Ytppklhfiajjhmaa.Reads.Rows w A' 15 (List.replicate 15 isI64) ys) →
  ∃ es:List In1,xs = es.map In1.v ∧ ∀ e ∈ es,e.ok w
 | [],_ => ⟨[],rfl,by simp⟩
 | x :: xs,h => by
  obtain ⟨A,c,ys,rfl,h2,h3⟩:=h x (by simp)
  obtain ⟨e,e1,e2,_⟩:=in1 h2 h3
  obtain ⟨es,f1,f2⟩:=in1s xs (fun x hx => h x (by simp [hx]))
  refine ⟨e :: es,by rw [List.map_cons,e2,f1],fun x hx => ?_⟩
  rcases List.mem_cons.1 hx with rfl | hx
  ·exact e1
  ·exact f2 x hx
def outB (A:Option Addr) (es:List In1):InB:=⟨A,⟨.rlst (es.zipIdx.map fun p => .va (p.2 + 1) 0 p.1.it.length 15),22⟩,es.map In1.v⟩
def inL (A:Option Addr) (es:List In1):List InB:=outB A es :: es.map In1.b
theorem RVs_of {σ:Sg}:∀ {l:List MV} {us:List Value},l.length = us.length → (∀ (i:Nat) x u,l[i]? = some x → us[i]? = some u → RV σ x u) → RVs σ l us
 | [],[],_,_ => by simp [RVs]
 | [],_ :: _,h,_ => by simp at h
 | _ :: _,[],h,_ => by simp at h
 | x :: l,u :: us,h,k => by
  simp only [RVs]
  exact ⟨u,us,rfl,k 0 x u rfl rfl,RVs_of (by simpa using h) (fun i x u h1 h2 => k (i + 1) x u (by simpa using h1) (by simpa using h2))⟩
theorem inL_rm {w:World} {A:Option Addr} {es:List In1} (hin:InAt w A (es.map In1.v)) (he:∀ e ∈ es,e.ok w) (x:Nat → Value) :
  RM ⟨w.heap.size,fun _ => False⟩ w (sgOf w x (inL A es)) ((inL A es).map fun e => some e.k) w:=by
 refine rm_ins x _ (fun i e hi => ?_)
 cases i with
 | zero =>
  simp only [inL,List.getElem?_cons_zero,Option.some.injEq] at hi
  subst hi
  refine ⟨rfl,hin,RVs_of (by simp [outB,Blk.cells]) (fun j x u h1 h2 => ?_)⟩
  have h1':(es.zipIdx.map fun p => MV.va (p.2 + 1) 0 p.1.it.length 15)[j]? = some x:=h1
  have h2':(es.map In1.v)[j]? = some u:=h2
  rw [List.getElem?_map,List.getElem?_zipIdx] at h1'
  rw [List.getElem?_map] at h2'
  cases hj:es[j]? with
  | none => rw [hj] at h2'; simp at h2'
  | some e =>
   rw [hj] at h1' h2'
   simp only [Option.map_some,Option.some.injEq,Nat.zero_add] at h1' h2'
   subst h1'; subst h2'
   obtain ⟨k1,k2⟩:=he e (List.mem_of_getElem? hj)
   refine va_in (e:=e.b) (by simp [inL,hj]) k2 k1 (fun hp hc => ?_)
   have:=rowsV_len (i64s 15) e.it
   have hc':rowsV (i64s 15) e.it = []:=hc
   rw [hc'] at this
   simp [i64s] at this
   omega
 | succ i =>
  simp only [inL,List.getElem?_cons_succ,List.getElem?_map] at hi
  obtain ⟨e1,h1,rfl⟩:=Option.map_eq_some_iff.1 hi
  obtain ⟨k1,k2⟩:=he e1 (List.mem_of_getElem? h1)
  exact ⟨rfl,k2,rows_RVs _ _ _⟩
theorem sl_in {w:World} {x:Nat → Value} {A:Option Addr} {es:List In1} {c:Nat} (hin:InAt w A (es.map In1.v)) (hne:es ≠ []):RV (sgOf w x (inL A es)) (.sl 0 0 es.length c) (.slice A es.length c):=by
 obtain ⟨g,off,pre,rest,ty,fr,h1,h2,h3⟩:=hin.blk (by simpa using hne)
 subst h1
 simp only [RV]
 refine ⟨g,?_,?_⟩
 ·show fOf (some (outB (some ⟨g,off,none⟩) es)) = some g
  unfold fOf outB
  simp only
  rw [if_neg (by simpa using hne)]
  rfl
 ·rfl
end Go.Proofs.Ytppklhfiajjhmaa.Ti
end
section
namespace Go.Proofs.Ytppklhfiajjhmaa.Ti
open Go Go.RowKit Go.Proofs.Ytppklhfiajjhmaa.Y Go.Proofs.Ytppklhfiajjhmaa.AskWords Go.Proofs.Ytppklhfiajjhmaa.Reads
set_option linter.unusedVariables false
set_option linter.unusedSimpArgs false
theorem Does.run {c:Code} {tm tm':List MV} {m m':Mem} {R:KE → Option Out} {e:XE} {S:XE → List MV → Mem → Prop} (h:Does c tm m R) (hR:∀ kk:KE,R kk = kk e tm' m') (hS:S e tm' m'):XN Try.prog S12.env 0 c tm m S:=by
 obtain ⟨K,rs,h⟩:=h
 exact XN.of_xn E_ok S12_ok mixed (fun kk => (h kk).trans (hR kk)) hS
theorem Does.then {a b:Code} {tm tm':List MV} {m m':Mem} {R:KE → Option Out} {S:XE → List MV → Mem → Prop} (h:Does a tm m R) (hR:∀ kk:KE,R kk = kk .normal tm' m') (hb:XN Try.prog S12.env 0 b tm' m' S):XN Try.prog S12.env 0 (.seq a b) tm m S:=XN.seq (h.run hR hb)
theorem XN.weakL {P:Program} {X:Env} {n:Nat} {c:Code} {tm:List MV} {pre l l2:Mem} {S:XE → List MV → Mem → Prop}
  (h:∀ (j:Nat) (k2:Blk),l2[j]? = some (some k2) → l.length ≤ j ∨ ∃ k:Blk,l[j]? = some (some k) ∧ k2.ty = k.ty ∧ k2.ro = k.ro ∧ (k2.cells = [] ↔ k.cells = []) ∧ ∀ σ us,RVs σ k.cells us → RVs σ k2.cells us)
  (h2:∀ (j:Nat) (k:Blk),l[j]? = some (some k) → ∃ k2:Blk,l2[j]? = some (some k2)) (hk:XN P X n c tm (pre ++ l2) S):XN P X n c tm (pre ++ l) S:=by
 refine XN.grow (fun base w0 σ a w hR => ⟨σ,ExtN.refl n σ,hR.df,hR.tm,RM.weak hR.mem (fun i k2 hi => ?_) (fun i k hi => ?_)⟩) hk
 ·rcases Nat.lt_or_ge i pre.length with hl | hl
  ·rw [List.getElem?_append_left hl] at hi
   exact .inr ⟨k2,by rw [List.getElem?_append_left hl]; exact hi,rfl,rfl,Iff.rfl,fun _ h => h⟩
  ·rw [List.getElem?_append_right hl] at hi
   rcases h _ k2 hi with hz | ⟨k,e1,e2,e3,e4,e5⟩
   ·left
    cases hs:σ i with
    | none => rfl
    | some g =>
     obtain ⟨k0,hk0⟩:=hR.mem.dom i g hs
     have:=(List.getElem?_eq_some_iff.1 hk0).1
     rw [List.length_append] at this
     omega
   ·exact .inr ⟨k,by rw [List.getElem?_append_right hl]; exact e1,e2,e3,e4,e5 σ⟩
 ·rcases Nat.lt_or_ge i pre.length with hl | hl
  ·rw [List.getElem?_append_left hl] at hi
   exact ⟨k,by rw [List.getElem?_append_left hl]; exact hi⟩
  ·rw [List.getElem?_append_right hl] at hi
   obtain ⟨k2,h3⟩:=h2 _ k hi
   exact ⟨k2,by rw [List.getElem?_append_right hl]; exact h3⟩
theorem wX_weak {X Y S W H:Int} {L L' C:MV} (h:∀ (σ:Sg) (u:Value),RV σ L u → RV σ L' u) (σ:Sg) (us:List Value) (hu:RVs σ [iv X,iv Y,iv S,iv W,iv H,L,C] us):RVs σ [iv X,iv Y,iv S,iv W,iv H,L',C] us:=by
 simp only [RVs] at hu ⊢
 obtain ⟨w1,z1,rfl,a1,w2,z2,rfl,a2,w3,z3,rfl,a3,w4,z4,rfl,a4,w5,z5,rfl,a5,w6,z6,rfl,a6,w7,z7,rfl,a7,rfl⟩:=hu
 exact ⟨_,_,rfl,a1,_,_,rfl,a2,_,_,rfl,a3,_,_,rfl,a4,_,_,rfl,a5,_,_,rfl,h _ _ a6,_,_,rfl,a7,rfl⟩
theorem va_any {σ:Sg} {b i n s:Nat} {u:Value} (h:RV σ (.va b i n s) u):RV σ .any u:=by
 simp only [RV] at h ⊢
 obtain ⟨A,c,rfl,_⟩:=h
 rfl
theorem fewR_bad:∀ {ts:List (List (List Int))} {x y:Option Out},(∃ t ∈ ts,5 < t.length) → fewR ts x y = x
 | [],x,y,h => by obtain ⟨t,h,_⟩:=h; simp at h
 | t :: ts,x,y,h => by
  unfold fewR
  by_cases ht:5 < t.length
  ·rw [decide_eq_true (by omega)]; rfl
  ·rw [decide_eq_false (by omega)]
   obtain ⟨t',h1,h2⟩:=h
   rcases List.mem_cons.1 h1 with rfl | h1
   ·exact absurd h2 ht
   ·exact fewR_bad ⟨t',h1,h2⟩
theorem fewR_ok:∀ {ts:List (List (List Int))} {x y:Option Out},(∀ t ∈ ts,t.length ≤ 5) → fewR ts x y = y
 | [],x,y,h => rfl
 | t :: ts,x,y,h => by
  unfold fewR
  have ht:=h t (by simp)
  rw [decide_eq_false (by omega)]
  exact fewR_ok fun t' h1 => h t' (by simp [h1])
theorem getD_len {ts:List (List (List Int))} (h:∀ t ∈ ts,t.length ≤ 5) (i:Nat):(ts.getD i []).length ≤ 5:=by
 rw [List.getD_eq_getElem?_getD]
 cases hi:ts[i]? with
 | none => simp
 | some t => exact h t (List.mem_of_getElem? hi)
theorem oldF_len {ts:List (List (List Int))} (h:∀ t ∈ ts,t.length ≤ 5):∀ i,(oldF ts i).length ≤ 5
 | 0 => by simp [oldF]
 | i + 1 => getD_len h i
theorem same_refl (l:List (List Int)):sameB l l = true:=decide_eq_true rfl
section
variable {X Y S:Int} {W H:Nat} (hG:Pure.okG X Y S (W:Int) (H:Int))
include hG
theorem itR_ok {old t cs:List (List Int)} (ho:old.length ≤ 5) (ht:t.length ≤ 5) (hc:cs.length = H * W) (x y:Option Out):itR X Y S W H old t cs (showR X Y S W H t (harmL old t) (cs,0)) x y = y:=by
 have e:=grid_HW' hG
 have hl:=showR_len X Y S W H t (harmL old t) (cs,0)
 have hl':(showR X Y S W H t (harmL old t) (cs,0)).1.length = cs.length:=hl
 have hcI:(cs.length:Int) = (H:Int) * W:=by rw [hc,e.2,Int.mul_comm]
 have s0:showOk X Y S W H old.length t.length cs.length cs old t = true:=decide_eq_true ⟨hG,hcI,rfl,rfl,rfl,by omega⟩
 have s1:docOk X Y S W H old t cs = true:=decide_eq_true ⟨hG,hcI,by omega⟩
 have s2:decide ((showR X Y S W H t (harmL old t) (cs,0)).1.length = cs.length ∧ (showR X Y S W H t (harmL old t) (cs,0)).1.length ≤ 1000000) = true:=decide_eq_true ⟨hl',by omega⟩
 have s3:decide ((showR X Y S W H t (harmL old t) (cs,0)).1.length ≤ 1000000 ∧ (showR X Y S W H t (harmL old t) (cs,0)).1.length ≤ 1000000) = true:=decide_eq_true ⟨by omega,by omega⟩
 unfold itR
 rw [s0,s1,s2,s3,same_refl,hl']
 simp
end
def csF (X Y S W H:Int) (ts:List (List (List Int))):Nat → List (List Int)
 | 0 => pic0 X Y S W H
 | i + 1 => (showR X Y S W H (ts.getD i []) (harmL (oldF ts i) (ts.getD i [])) (csF X Y S W H ts i,0)).1
theorem csF_len (X Y S:Int) (W H:Nat) (ts:List (List (List Int))):∀ i,(csF X Y S W H ts i).length = H * W
 | 0 => by unfold csF pic0; rw [picL_len]; simp
 | i + 1 => by
  have h:=showR_len X Y S W H (ts.getD i []) (harmL (oldF ts i) (ts.getD i [])) (csF X Y S W H ts i,0)
  unfold csF
  rw [h]
  exact csF_len X Y S W H ts i
def Post:XE → List MV → Mem → Prop:=fun e tm m => match e with
 | .exit _ => False
 | _ => ∃ vs,xres Try.prog tm m Try.f12.results.toList = some vs ∧ xpack vs = .val (.bool true)
set_option maxRecDepth 100000 in
theorem fn18 (X Y S W H row k:Int) (nc:Nat) (cs:List (List Int)) (kk:KE):xcode Try.prog E S12 8 (cut c12 [1,1,1,1,1,1,1,0]) (f_ row k) (fM X Y S W H nc cs) (nk 0 [2,3,4,9,11,16,17] [0,1,2,3,4] kk) =
  bif decide (row < 0) then kk .normal (f8_ row k 0 false) (fM X Y S W H nc cs) else bif decide (k < 0) then kk .normal (f8_ row k 0 false) (fM X Y S W H nc cs) else bif decide (row ≥ H) then kk .normal (f8_ row k 0 false) (fM X Y S W H nc cs) else bif decide (k ≥ W) then kk .normal (f8_ row k 0 false) (fM X Y S W H nc cs) else
   bif decide (0 ≤ at_ row k W ∧ at_ row k W < (nc:Int)) then bif decide (0 + Int.toNat (at_ row k W) < cs.length) then kk .normal (f8_ row k ((cs.getD (0 + Int.toNat (at_ row k W)) []).getD 0 0) true) (fM X Y S W H nc cs) else none else none:=by kernel_rfl
set_option maxRecDepth 100000 in
theorem fn19 (X Y S W H row k v:Int) (ok:Bool) (nc:Nat) (cs:List (List Int)) (kk:KE):xcode Try.prog E S12 8 (cut c12 [1,1,1,1,1,1,1,1,0]) (f8_ row k v ok) (fM X Y S W H nc cs) (nk 0 [2,3,4,9,11,16,17,18] [0,1,2,3,4] kk) =
  bif decide (row ≥ 0) then bif decide (row < H) then bif decide (k ≥ 0) then kk .normal (f9_ row k v ok (decide (k < W))) (fM X Y S W H nc cs) else kk .normal (f9_ row k v ok false) (fM X Y S W H nc cs) else kk .normal (f9_ row k v ok false) (fM X Y S W H nc cs) else kk .normal (f9_ row k v ok false) (fM X Y S W H nc cs):=by kernel_rfl
set_option maxRecDepth 100000 in
theorem fn20 (X Y S W H row k v:Int) (nc:Nat) (cs:List (List Int)) (kk:KE):xcode Try.prog E S12 8 (cut c12 [1,1,1,1,1,1,1,1,1,0]) (f9_ row k v true true) (fM X Y S W H nc cs) (nk 0 [8] [] kk) =
  bif X == X && (Y == Y && (S == S && (W == W && (H == H && true)))) then bif decide (0 ≤ at_ row k W ∧ at_ row k W < (nc:Int)) then bif decide (0 + Int.toNat (at_ row k W) < cs.length) then kk .normal (r8_ (v == (cs.getD (0 + Int.toNat (at_ row k W)) []).getD 0 0)) [] else none else none else kk .normal (r8_ false) []:=by kernel_rfl
set_option maxRecDepth 100000 in
theorem fn20b (X Y S W H row k v:Int) (nc:Nat) (cs:List (List Int)) (kk:KE):xcode Try.prog E S12 8 (cut c12 [1,1,1,1,1,1,1,1,1,0]) (f9_ row k v false false) (fM X Y S W H nc cs) (nk 0 [8] [] kk) =
  bif X == X && (Y == Y && (S == S && (W == W && (H == H && true)))) then bif v == 0 then kk .normal (r8_ true) [] else kk .normal (r8_ false) [] else kk .normal (r8_ false) []:=by kernel_rfl
theorem r8_post:Post .ret (r8_ true) []:=⟨[.val (.bool true)],rfl,rfl⟩
theorem fin_x (X Y S row k:Int) (W H:Nat) (hG:Pure.okG X Y S (W:Int) (H:Int)) (cs:List (List Int)) (hc:cs.length = H * W) :
  XN Try.prog S12.env 0 (.seq (cut c12 [1,1,1,1,1,1,1,0]) (.seq (cut c12 [1,1,1,1,1,1,1,1,0]) (.seq (cut c12 [1,1,1,1,1,1,1,1,1,0]) .ret))) (f_ row k) (fM X Y S W H cs.length cs) Post:=by
 have hHW:=grid_HW' hG
 have eqs:(X == X && (Y == Y && (S == S && ((W:Int) == (W:Int) && ((H:Int) == (H:Int) && true))))) = true:=by simp
 by_cases h:0 ≤ row ∧ row < H ∧ 0 ≤ k ∧ k < W
 ·obtain ⟨h1,h2,h3,h4⟩:=h
  obtain ⟨r,rfl⟩:∃ r:Nat,row = r:=⟨row.toNat,by omega⟩
  obtain ⟨q,rfl⟩:∃ q:Nat,k = q:=⟨k.toNat,by omega⟩
  have hr:r + 1 ≤ H:=by omega
  have hle:(r + 1) * W ≤ H * W:=Nat.mul_le_mul_right W hr
  rw [Nat.add_mul,Nat.one_mul] at hle
  have hat:at_ (r:Int) (q:Int) (W:Int) = ((r * W + q:Nat):Int):=by
   have key:∀ n:Nat,n ≤ 4096 → IntKind.wrap IntKind.i64 (n:Int) = n:=fun n hn => w6_id (n:=(n:Int)) (by omega) (by omega)
   have e1:(r:Int) * (W:Int) = ((r * W:Nat):Int):=by push_cast; rfl
   show IntKind.wrap IntKind.i64 (IntKind.wrap IntKind.i64 ((r:Int) * (W:Int)) + (q:Int)) = _
   rw [e1,key _ (by omega),show ((r * W:Nat):Int) + (q:Int) = ((r * W + q:Nat):Int) by push_cast; rfl,key _ (by omega)]
  have c1:decide ((r:Int) < 0) = false:=decide_eq_false (by omega)
  have c2:decide ((q:Int) < 0) = false:=decide_eq_false (by omega)
  have c3:decide ((r:Int) ≥ (H:Int)) = false:=decide_eq_false (by omega)
  have c4:decide ((q:Int) ≥ (W:Int)) = false:=decide_eq_false (by omega)
  have c5:decide (0 ≤ ((r * W + q:Nat):Int) ∧ ((r * W + q:Nat):Int) < (cs.length:Int)) = true:=decide_eq_true (by omega)
  have c6:decide (0 + Int.toNat ((r * W + q:Nat):Int) < cs.length) = true:=decide_eq_true (by rw [Int.toNat_natCast]; omega)
  have c7:decide ((r:Int) ≥ 0) = true:=decide_eq_true (by omega)
  have c8:decide ((r:Int) < (H:Int)) = true:=decide_eq_true (by omega)
  have c9:decide ((q:Int) ≥ 0) = true:=decide_eq_true (by omega)
  have c10:decide ((q:Int) < (W:Int)) = true:=decide_eq_true (by omega)
  refine XN.seq_xn E_ok S12_ok mixed (fun kk => (fn18 X Y S W H r q _ cs kk).trans (by rw [c1,c2,c3,c4,hat,c5,c6]; rfl)) ?_
  refine XN.seq_xn E_ok S12_ok mixed (fun kk => (fn19 X Y S W H r q _ true _ cs kk).trans (by rw [c7,c8,c9,c10]; rfl)) ?_
  refine XN.seq_xn E_ok S12_ok mixed (tm':=r8_ true) (m':=[]) (fun kk => (fn20 X Y S W H r q _ _ cs kk).trans (by rw [eqs,hat,c5,c6,beq_self_eq_true]; rfl)) ?_
  exact XN.of_x (n:=1) (e:=.ret) E_ok S12_ok mixed (fun kk => rfl) r8_post
 ·have g1:∀ kk:KE,xcode Try.prog E S12 8 (cut c12 [1,1,1,1,1,1,1,0]) (f_ row k) (fM X Y S W H cs.length cs) (nk 0 [2,3,4,9,11,16,17] [0,1,2,3,4] kk) = kk .normal (f8_ row k 0 false) (fM X Y S W H cs.length cs):=by
   intro kk
   rw [fn18]
   by_cases h1:row < 0
   ·rw [decide_eq_true h1]; rfl
   ·rw [decide_eq_false h1]
    by_cases h2:k < 0
    ·rw [decide_eq_true h2]; rfl
    ·rw [decide_eq_false h2]
     by_cases h3:row ≥ (H:Int)
     ·rw [decide_eq_true h3]; rfl
     ·rw [decide_eq_false h3,decide_eq_true (show k ≥ (W:Int) by omega)]; rfl
  have g2:∀ kk:KE,xcode Try.prog E S12 8 (cut c12 [1,1,1,1,1,1,1,1,0]) (f8_ row k 0 false) (fM X Y S W H cs.length cs) (nk 0 [2,3,4,9,11,16,17,18] [0,1,2,3,4] kk) = kk .normal (f9_ row k 0 false false) (fM X Y S W H cs.length cs):=by
   intro kk
   rw [fn19]
   by_cases h1:row ≥ 0
   ·rw [decide_eq_true h1]
    by_cases h2:row < (H:Int)
    ·rw [decide_eq_true h2]
     by_cases h3:k ≥ 0
     ·rw [decide_eq_true h3,decide_eq_false (show ¬ k < (W:Int) by omega)]; rfl
     ·rw [decide_eq_false h3]; rfl
    ·rw [decide_eq_false h2]; rfl
   ·rw [decide_eq_false h1]; rfl
  refine XN.seq_xn E_ok S12_ok mixed g1 (XN.seq_xn E_ok S12_ok mixed g2 ?_)
  refine XN.seq_xn E_ok S12_ok mixed (tm':=r8_ true) (m':=[]) (fun kk => (fn20b X Y S W H row k 0 _ cs kk).trans (by rw [eqs]; rfl)) ?_
  exact XN.of_x (n:=1) (e:=.ret) E_ok S12_ok mixed (fun kk => rfl) r8_post
theorem c12_eq:c12 = .seq (cut c12 [0]) (.seq (cut c12 [1,0]) (.seq (cut c12 [1,1,0]) (.seq (cut c12 [1,1,1,0]) (.seq (cut c12 [1,1,1,1,0]) (.seq (cut c12 [1,1,1,1,1,0]) (.seq (.seq (cut c12 [1,1,1,1,1,1,0,0]) (.block 0 (.loop (cut c12 [1,1,1,1,1,1,0,1,0,0]))))
  (.seq (cut c12 [1,1,1,1,1,1,1,0]) (.seq (cut c12 [1,1,1,1,1,1,1,1,0]) (.seq (cut c12 [1,1,1,1,1,1,1,1,1,0]) .ret))))))))):=by kernel_rfl
theorem shows_x {n L:Nat} {a:MV} {pre:Mem} {ts:List (List (List Int))} {X Y S W H row k:Int} (r:Runs n L a pre ts X Y S W H row k) (hn:n ≤ 5):XN Try.prog S12.env 0 c12 ([.agg [iv X,iv Y,iv S,iv W,iv H],a,iv row,iv k] ++ List.replicate 149 (.val undef)) pre Post:=by
 refine XN.cast c12_eq ?_
 refine r.f0.then (fun kk => rfl) ?_
 by_cases hf:∃ t ∈ ts,5 < t.length
 ·exact XN.seq (r.f1.run (e:=.ret) (fun kk => fewR_bad hf) ⟨[.val (.bool true)],rfl,rfl⟩)
 have hf':∀ t ∈ ts,t.length ≤ 5:=fun t ht => by
  rcases Nat.lt_or_ge 5 t.length with h | h
  ·exact absurd ⟨t,ht,h⟩ hf
  ·exact h
 refine r.f1.then (fun kk => fewR_ok hf') ?_
 cases hg:decide (Pure.okG X Y S W H) with
 | false =>
  refine r.f3.then (fun kk => by rw [hg]; rfl) ?_
  exact XN.seq (r.f4b.run (e:=.ret) (fun kk => by rw [hg]; rfl) r8_post)
 | true =>
 have hG:=of_decide_eq_true hg
 refine r.f3.then (fun kk => by rw [hg]; rfl) ?_
 refine (r.f4 _ _).then (fun kk => by rw [hg]; rfl) ?_
 cases h200:decide (mH W H > 200) with
 | true => exact XN.seq ((r.f6 _ _).run (e:=.ret) (fun kk => by rw [h200]; rfl) ⟨[.val (.bool ((0:Int) == 0))],rfl,rfl⟩)
 | false =>
 refine (r.f6 _ _).then (fun kk => by rw [h200]; rfl) ?_
 refine (r.f8 _ _).then (fun kk => by rw [hg]; rfl) ?_
 refine XN.seq ((r.f9 _ _).then (fun kk => rfl) ?_)
 obtain ⟨Wn,rfl⟩:∃ n:Nat,W = n:=⟨W.toNat,by obtain ⟨g,_⟩:=hG; omega⟩
 obtain ⟨Hn,rfl⟩:∃ n:Nat,H = n:=⟨H.toNat,by obtain ⟨_,g,_⟩:=hG; omega⟩
 refine XN.weakL (l2:=[qG X Y S Wn Hn,wX X Y S Wn Hn (.va (L + 5) 0 0 15) (L + 2) (pic0 X Y S Wn Hn).length 90,csB (pic0 X Y S Wn Hn),wX X Y S Wn Hn (.va (L + 5) 0 0 15) (L + 4) (pic0 X Y S Wn Hn).length 73,csB (pic0 X Y S Wn Hn),iB []]) (fun j k2 hj => ?_) (fun j k0 hj => ?_) ?_
 ·match j,hj with
  | 0,hj => exact .inr ⟨k2,hj,rfl,rfl,Iff.rfl,fun _ _ h => h⟩
  | 1,hj =>
   simp only [wX,List.getElem?_cons_succ,List.getElem?_cons_zero,Option.some.injEq] at hj
   subst hj
   exact .inr ⟨_,rfl,rfl,rfl,by simp,wX_weak (fun σ u h => nil_va h)⟩
  | 2,hj => exact .inr ⟨k2,hj,rfl,rfl,Iff.rfl,fun _ _ h => h⟩
  | 3,hj =>
   simp only [wX,List.getElem?_cons_succ,List.getElem?_cons_zero,Option.some.injEq] at hj
   subst hj
   exact .inr ⟨_,rfl,rfl,rfl,by simp,wX_weak (fun σ u h => nil_va h)⟩
  | 4,hj => exact .inr ⟨k2,hj,rfl,rfl,Iff.rfl,fun _ _ h => h⟩
  | j + 5,hj => exact .inl (by simp)
 ·match j,hj with
  | 0,_ => exact ⟨_,rfl⟩
  | 1,_ => exact ⟨_,rfl⟩
  | 2,_ => exact ⟨_,rfl⟩
  | 3,_ => exact ⟨_,rfl⟩
  | 4,_ => exact ⟨_,rfl⟩
  | j + 5,hj => simp at hj
 refine XN.block (XN.mono (XN.loop (fun j tm m => ∃ i:Nat,i ≤ n ∧ j = n - i ∧ tm = sL_ a n L (L + 1) (L + 3) row k i ∧ m = stM pre L (dlF L i) X Y S Wn Hn (oldF ts i) (csF X Y S Wn Hn ts i) (csF X Y S Wn Hn ts i).length)
  (S:=fun e tm m => e = .exit 0 ∧ tm = sL_ a n L (L + 1) (L + 3) row k n ∧ m = stM pre L (dlF L n) X Y S Wn Hn (oldF ts n) (csF X Y S Wn Hn ts n) (csF X Y S Wn Hn ts n).length) ?_ (j:=n) ⟨0,Nat.zero_le _,rfl,rfl,rfl⟩) ?_)
 ·rintro j tm m ⟨i,hi,rfl,rfl,rfl⟩
  rcases Nat.lt_or_ge i n with hlt | hge
  ·refine (r.it i hlt _).run (e:=.normal) (fun kk => itR_ok hG (oldF_len hf' i) (getD_len hf' i) (csF_len X Y S Wn Hn ts i) _ _) ?_
   refine ⟨n - (i + 1),by omega,i + 1,hlt,rfl,by rw [wadd1 i (by omega)],?_⟩
   rw [csF_len X Y S Wn Hn ts i,csF_len X Y S Wn Hn ts (i + 1)]
   rfl
  ·have:i = n:=by omega
   subst this
   exact (r.ex _ _ _).run (fun kk => rfl) ⟨rfl,rfl,rfl⟩
 rintro e tm m ⟨rfl,rfl,rfl⟩
 simp only [if_true]
 have hcl:=csF_len X Y S Wn Hn ts n
 generalize csF X Y S Wn Hn ts n = cs at *
 generalize oldF ts n = old at *
 refine XN.weakL (l2:=[qG X Y S Wn Hn,wX X Y S Wn Hn .any (L + 2) cs.length 90,csB cs,wX X Y S Wn Hn .any (L + 4) cs.length 73,csB cs,iB old]) (fun j k2 hj => ?_) (fun j k0 hj => ?_) ?_
 ·match j,hj with
  | 0,hj => exact .inr ⟨k2,hj,rfl,rfl,Iff.rfl,fun _ _ h => h⟩
  | 1,hj =>
   simp only [wX,List.getElem?_cons_succ,List.getElem?_cons_zero,Option.some.injEq] at hj
   subst hj
   exact .inr ⟨_,rfl,rfl,rfl,by simp,wX_weak (fun σ u h => va_any h)⟩
  | 2,hj => exact .inr ⟨k2,hj,rfl,rfl,Iff.rfl,fun _ _ h => h⟩
  | 3,hj =>
   simp only [wX,List.getElem?_cons_succ,List.getElem?_cons_zero,Option.some.injEq] at hj
   subst hj
   exact .inr ⟨_,rfl,rfl,rfl,by simp,wX_weak (fun σ u h => va_any h)⟩
  | 4,hj => exact .inr ⟨k2,hj,rfl,rfl,Iff.rfl,fun _ _ h => h⟩
  | 5,hj => exact .inr ⟨k2,hj,rfl,rfl,Iff.rfl,fun _ _ h => h⟩
  | j + 6,hj => simp at hj
 ·match j,hj with
  | 0,_ => exact ⟨_,rfl⟩
  | 1,_ => exact ⟨_,rfl⟩
  | 2,_ => exact ⟨_,rfl⟩
  | 3,_ => exact ⟨_,rfl⟩
  | 4,_ => exact ⟨_,rfl⟩
  | 5,_ => exact ⟨_,rfl⟩
  | j + 6,hj => simp at hj
 obtain ⟨K,rs,n1,n2,n3⟩:=r.fin cs.length cs old
 refine XN.norm n1 ?_
 rw [n2,n3]
 exact fin_x X Y S row k Wn Hn hG cs hcl
theorem calls_0 {c:Code} {f:Nat} {fn:Func} {X:Env} (hf:Try.prog.funcs[f]? = some fn) (hb:fn.body = some c) {args:List MV} {m:Mem} {us:List Value} {w:World} {σ:Sg} {base:Bs}
  (h:XN Try.prog X 0 c (args ++ List.replicate (fn.ntmps - args.length) (.val undef)) m (fun e tm' m' => match e with
   | .exit _ => False
   | _ => ∃ vs,xres Try.prog tm' m' fn.results.toList = some vs ∧ xpack vs = .val (.bool true))) (hX:X base w σ.x) (hu:RVs σ args us) (hM:RM base w σ m w) (hbs:base = ⟨w.heap.size,fun _ => False⟩):Calls Try.prog f us.toArray w (IsTrue w):=by
 have hl:=hu.length
 refine calls_of_wp hf hb (h base w σ _ w _ hX ⟨rfl,?_,hM⟩ ?_)
 ·have e:(us.toArray ++ Array.replicate (fn.ntmps - us.toArray.size) undef).toList = us ++ List.replicate (fn.ntmps - args.length) undef:=by simp [hl]
  rw [e]
  refine hu.append ?_
  have:=RVs.vals (σ:=σ) (List.replicate (fn.ntmps - args.length) undef)
  simpa using this
 ·intro e tm' m' σ' a' w' h1 h2 h3
  subst hbs
  cases e with
  | exit id => exact h1.elim
  | normal =>
   obtain ⟨vs,hv,hs⟩:=h1
   obtain ⟨u,g1,g2⟩:=results_ok h3 hv
   rw [hs] at g2
   simp only [RV] at g2
   exact ⟨h3.df,u,g1,by subst g2; exact ⟨rfl,h3.mem.bel.to⟩⟩
  | ret =>
   obtain ⟨vs,hv,hs⟩:=h1
   obtain ⟨u,g1,g2⟩:=results_ok h3 hv
   rw [hs] at g2
   simp only [RV] at g2
   exact ⟨h3.df,u,g1,by subst g2; exact ⟨rfl,h3.mem.bel.to⟩⟩
set_option maxRecDepth 100000 in
theorem many0 (X Y S W H row k:Int) (n:Nat) (kk:KE):xcode Try.prog E S12 8 (cut c12 [0]) ([.agg [iv X,iv Y,iv S,iv W,iv H],.xs 0 n,iv row,iv k] ++ List.replicate 149 (.val undef)) [] (nk 0 [1,2,3,4,8] [0] kk) =
  kk XE.normal ([MV.junk,MV.xs 0 n,iv row,iv k,MV.ptr 0 0,MV.junk,MV.junk,MV.junk,MV.val (Value.bool false)] ++ J 144) [some { row:=Row.lst [iv X,iv Y,iv S,iv W,iv H],ty:=44 }]:=by kernel_rfl
set_option maxRecDepth 100000 in
theorem many1 (X Y S W H row k:Int) (n:Nat) (kk:KE):xcode Try.prog E S12 8 (cut c12 [1,0]) (s1_ (.xs 0 n) 0 row k false) [qG X Y S W H] (nk 0 [8] [] kk) =
  bif decide ((↑n:Int) > 5) then kk XE.ret (J 8 ++ [MV.val (Value.bool true)] ++ J 144) [] else bif decide (0 < (↑n:Int)) then none else kk XE.normal (J 8 ++ [MV.val (Value.bool false)] ++ J 144) []:=by kernel_rfl
theorem many_x (X Y S W H row k:Int) (n:Nat) (hn:5 < n):XN Try.prog S12.env 0 c12 ([.agg [iv X,iv Y,iv S,iv W,iv H],.xs 0 n,iv row,iv k] ++ List.replicate 149 (.val undef)) [] Post:=by
 refine XN.cast c12_eq ?_
 refine XN.seq_xn E_ok S12_ok mixed (tm':=s1_ (.xs 0 n) 0 row k false) (m':=[qG X Y S W H]) (fun kk => (many0 X Y S W H row k n kk).trans rfl) ?_
 exact XN.seq (XN.of_xn E_ok S12_ok mixed (e:=.ret) (tm':=r8_ true) (m':=[]) (fun kk => (many1 X Y S W H row k n kk).trans (by rw [decide_eq_true (show (n:Int) > 5 by omega)]; rfl)) r8_post)
theorem TilesShow_any (X Y S W H:Int) (A:Option Addr) (c:Nat) (xs:List Value) (row k:Int) (w:World) (hc:xs.length ≤ c) (hin:InAt w A xs)
  (hr:∀ x ∈ xs,∃ (A':Option Addr) (c':Nat) (ys:List (List Value)),x = .slice A' ys.length c' ∧ ys.length ≤ c' ∧ Go.Proofs.Ytppklhfiajjhmaa.Reads.Rows w A' 15 (List.replicate 15 isI64) ys) :
  Calls Try.prog 12 #[.agg #[.int .i64 X,.int .i64 Y,.int .i64 S,.int .i64 W,.int .i64 H],.slice A xs.length c,.int .i64 row,.int .i64 k] w (IsTrue w):=by
 obtain ⟨es,rfl,he⟩:=in1s xs hr
 rw [List.length_map]
 have four:∀ {σ:Sg} {a:MV} {u:Value},RV σ a u → RVs σ [.agg [iv X,iv Y,iv S,iv W,iv H],a,iv row,iv k] [.agg #[.int .i64 X,.int .i64 Y,.int .i64 S,.int .i64 W,.int .i64 H],u,.int .i64 row,.int .i64 k]:=by
  intro σ a u h
  simp only [RVs]
  refine ⟨_,_,rfl,?_,_,_,rfl,h,_,_,rfl,rfl,_,_,rfl,rfl,rfl⟩
  simp only [RV]
  exact ⟨_,RVs.vals [.int .i64 X,.int .i64 Y,.int .i64 S,.int .i64 W,.int .i64 H],rfl⟩
 have hf:=Try.func12
 have hb:Try.f12.body = some c12:=by kernel_rfl
 have one:∀ (hne:es ≠ []),RV (sgOf w (fun _ => .nilIface) (inL A es)) (.sl 0 0 es.length c) (.slice A es.length c):=fun hne => sl_in hin hne
 match es,hin,he,one with
 | [],_,_,_ => exact calls_0 hf hb (shows_x (runs0 X Y S W H row k) (by omega)) trivial (σ:=none0 fun _ => .nilIface) (four (by simp only [RV]; exact ⟨A,c,rfl⟩)) (rm_nil w _) rfl
 | [e1],hin,he,one => exact calls_0 hf hb (shows_x (runs1 c e1.it X Y S W H row k) (by omega)) trivial (four (one (by simp))) (inL_rm hin he _) rfl
 | [e1,e2],hin,he,one => exact calls_0 hf hb (shows_x (runs2 c e1.it e2.it X Y S W H row k) (by omega)) trivial (four (one (by simp))) (inL_rm hin he _) rfl
 | [e1,e2,e3],hin,he,one => exact calls_0 hf hb (shows_x (runs3 c e1.it e2.it e3.it X Y S W H row k) (by omega)) trivial (four (one (by simp))) (inL_rm hin he _) rfl
 | [e1,e2,e3,e4],hin,he,one => exact calls_0 hf hb (shows_x (runs4 c e1.it e2.it e3.it e4.it X Y S W H row k) (by omega)) trivial (four (one (by simp))) (inL_rm hin he _) rfl
 | [e1,e2,e3,e4,e5],hin,he,one => exact calls_0 hf hb (shows_x (runs5 c e1.it e2.it e3.it e4.it e5.it X Y S W H row k) (by omega)) trivial (four (one (by simp))) (inL_rm hin he _) rfl
 | e1 :: e2 :: e3 :: e4 :: e5 :: e6 :: es,_,_,_ =>
  refine calls_0 hf hb (many_x X Y S W H row k (e1 :: e2 :: e3 :: e4 :: e5 :: e6 :: es).length (by simp)) trivial (σ:=none0 fun _ => .slice A (e1 :: e2 :: e3 :: e4 :: e5 :: e6 :: es).length c) (four ?_) (rm_nil w _) rfl
  simp only [RV]
  exact ⟨rfl,A,c,rfl⟩
end Go.Proofs.Ytppklhfiajjhmaa.Ti
end
