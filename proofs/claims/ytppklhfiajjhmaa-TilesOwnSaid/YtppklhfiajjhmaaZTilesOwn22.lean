/- What is proved: texts of the law TilesOwn, joined by program. Conditions: none but those in each statement. -/
import Derived.Test.YtppklhfiajjhmaaZTilesOwn18
import Derived.Test.YtppklhfiajjhmaaZTilesOwn21
import Derived.Test.YtppklhfiajjhmaaZTilesOwn19
import Derived.Test.YtppklhfiajjhmaaZTilesOwn3
section
namespace Go.Proofs.Ytppklhfiajjhmaa.Ti
open Go Go.RowKit Go.Proofs.Ytppklhfiajjhmaa.Y Go.Proofs.Ytppklhfiajjhmaa.AskWords Go.Proofs.Ytppklhfiajjhmaa.Reads
set_option linter.unusedVariables false
set_option linter.unusedSimpArgs false
structure In1 where
 A:Option Addr
 c:Nat
 it:List (List Int)
def In1.ok (w:World) (e:In1):Prop:=e.it.length ≤ e.c ∧ InAt w e.A (rowsV (i64s 15) e.it)
def In1.v (e:In1):Value:=.slice e.A e.it.length e.c
def In1.b (e:In1):InB:=⟨e.A,⟨.rrecs (i64s 15) e.it,39⟩,rowsV (i64s 15) e.it⟩
theorem in1 {w:World} {A:Option Addr} {c:Nat} {ys:List (List Value)} (hc:ys.length ≤ c) (h:Go.Proofs.Ytppklhfiajjhmaa.Reads.Rows w A 15 (List.replicate 15 isI64) ys):∃ e:In1,e.ok w ∧ e.v = .slice A ys.length c ∧ e.it.length = ys.length:=by
 obtain ⟨it,h1,h2,_⟩:=rows_in h (by omega)
 exact ⟨⟨A,c,it⟩,⟨by rw [h1]; exact hc,h2⟩,by unfold In1.v; rw [h1],h1⟩
section
variable {X Y S:Int} {W H:Nat} (hG:Pure.okG X Y S (W:Int) (H:Int))
include hG
theorem grid_HW:H * W ≤ 4096 ∧ ((H * W:Nat):Int) = (W:Int) * H:=by
 obtain ⟨g1,g2,g3,g4,g5,_⟩:=hG
 have e:(W:Int) * (H:Int) = ((H * W:Nat):Int):=by rw [Int.mul_comm]; push_cast; rfl
 exact ⟨by omega,e.symm⟩
theorem showOk_pic (old new:List (List Int)) (ho:old.length ≤ 5) (hn:new.length ≤ 5):showOk X Y S W H old.length new.length (picL [] X Y S W H).length (picL old X Y S W H) old new = true:=by
 have e:=(grid_HW hG).2
 unfold showOk
 exact decide_eq_true ⟨hG,by rw [picL_len,e,Int.mul_comm],by rw [picL_len,picL_len],rfl,rfl,by omega⟩
theorem big_ok (l:List (List Int)):decide ((picL l X Y S W H).length = (picL [] X Y S W H).length ∧ (picL l X Y S W H).length ≤ 1000000) = true:=by
 have:=(grid_HW hG).1
 exact decide_eq_true ⟨by rw [picL_len,picL_len],by rw [picL_len]; omega⟩
theorem big2_ok (l:List (List Int)):decide ((picL l X Y S W H).length ≤ 1000000 ∧ (picL l X Y S W H).length ≤ 1000000) = true:=by
 have:=(grid_HW hG).1
 exact decide_eq_true ⟨by rw [picL_len]; omega,by rw [picL_len]; omega⟩
theorem few_ok (l:List (List Int)) (h:l.length ≤ 5):decide (l.length ≤ 1000 ∧ Pure.okG X Y S W H) = true:=decide_eq_true ⟨by omega,hG⟩
end
theorem same_self (l:List (List Int)):sameB l l = true:=decide_eq_true rfl
theorem pic_nil (X Y S:Int) (W H:Nat):List.map (fun v => [v]) (Pure.pic [] X Y S W H) = picL [] X Y S W H:=rfl
theorem pic_nil_len (X Y S:Int) (W H:Nat):(Pure.pic [] X Y S W H).length = (picL [] X Y S W H).length:=by unfold picL; rw [List.length_map]; rfl
end Go.Proofs.Ytppklhfiajjhmaa.Ti
end
section
namespace Go.Proofs.Ytppklhfiajjhmaa.Ti
open Go Go.RowKit Go.Proofs.Ytppklhfiajjhmaa.Y Go.Proofs.Ytppklhfiajjhmaa.AskWords
set_option linter.unusedVariables false
set_option linter.unusedSimpArgs false
noncomputable def c11:Code:=bodyOf Try.f11
def gB (X Y S W H:Int):Option Blk:=some ⟨.lst [iv X,iv Y,iv S,iv W,iv H],44⟩
def lB (t:List (List Int)):Option Blk:=some ⟨.rrecs (i64s 15) t,39⟩
def oB (t:List (List Int)):Option Blk:=some ⟨.recs (i64s 15) t,39⟩
def bB (X Y S W H:Int) (L:MV) (c nc:Nat):Option Blk:=some ⟨.lst [iv X,iv Y,iv S,iv W,iv H,L,.va c 0 nc 1],90⟩
def cB (cs:List (List Int)):Option Blk:=some ⟨.recs (i64s 1) cs,2⟩
def fv0:MV:=.val (.bool false)
def t1_ (n:Nat):List MV:=[.junk,.va 0 0 n 15,.ptr 1 0,.junk,fv0] ++ J 91
def t3_ (n:Nat):List MV:=[.junk,.va 0 0 n 15,.ptr 1 0,.junk,fv0,.gv 2 n 15] ++ J 90
def t4_ (n:Nat):List MV:=[.junk,.va 0 0 n 15,.ptr 1 0,.junk,fv0,.gv 2 n 15,.ptr 3 0,iv 0] ++ J 88
def t6_ (n:Nat) (i:Int):List MV:=[.junk,.va 0 0 n 15,.ptr 1 0,.junk,fv0,.gv 2 n 15,.ptr 3 0,iv 0] ++ J 38 ++ [iv n,iv i] ++ J 48
def t11_ (n nc:Nat):List MV:=[.junk,.va 0 0 n 15,.ptr 1 0,.junk,fv0,.junk,.ptr 2 0,iv 0,.junk,.va 5 0 nc 1] ++ J 86
def t12_ (n nc:Nat) (i:Int):List MV:=[.junk,.va 0 0 n 15,.ptr 1 0,.junk,fv0,.junk,.ptr 2 0,iv 0,.junk,.va 5 0 nc 1] ++ J 54 ++ [iv nc,iv i] ++ J 30
def t17_ (n:Nat) (q:Int):List MV:=[.junk,.va 0 0 n 15,.ptr 1 0,.junk,fv0,.junk,.ptr 2 0,iv 0,.junk,.junk,.junk,iv q,iv 0] ++ J 83
set_option maxRecDepth 100000 in
theorem ow0 (X Y S W H:Int) (n:Nat) (t:List (List Int)) (kk:KE):xcode Try.prog E F9 8 (cut c11 [0]) ([.agg [iv X,iv Y,iv S,iv W,iv H],.va 0 0 n 15] ++ List.replicate 94 (.val undef)) [lB t] (nk 1 [1,2,4] [0,1] kk) =
  kk XE.normal ([MV.junk,MV.va 0 0 n 15,MV.ptr 1 0,MV.junk,MV.val (Value.bool false)] ++ J 91) [some { row:=Row.rrecs [some IntKind.i64,some IntKind.i64,some IntKind.i64,some IntKind.i64,some IntKind.i64,some IntKind.i64,some IntKind.i64,some IntKind.i64,some IntKind.i64,some IntKind.i64,some IntKind.i64,some IntKind.i64,some IntKind.i64,some IntKind.i64,some IntKind.i64] t,ty:=39 },some { row:=Row.lst [iv X,iv Y,iv S,iv W,iv H],ty:=44 }]:=by kernel_rfl
set_option maxRecDepth 100000 in
theorem ow1 (X Y S W H:Int) (n:Nat) (t:List (List Int)) (kk:KE):xcode Try.prog E F9 8 (cut c11 [1,0]) (t1_ n) [lB t,gB X Y S W H] (nk 1 [1,2,4] [0,1] kk) =
  bif decide ((↑n:Int) > 5) then kk XE.ret ([MV.junk,MV.va 0 0 n 15,MV.ptr 1 0,MV.junk,MV.val (Value.bool true)] ++ J 91) [some { row:=Row.rrecs [some IntKind.i64,some IntKind.i64,some IntKind.i64,some IntKind.i64,some IntKind.i64,some IntKind.i64,some IntKind.i64,some IntKind.i64,some IntKind.i64,some IntKind.i64,some IntKind.i64,some IntKind.i64,some IntKind.i64,some IntKind.i64,some IntKind.i64] t,ty:=39 },some { row:=Row.lst [iv X,iv Y,iv S,iv W,iv H],ty:=44 }] else bif !decide (Pure.okG X Y S W H) then kk XE.ret ([MV.junk,MV.va 0 0 n 15,MV.ptr 1 0,MV.junk,MV.val (Value.bool true)] ++ J 91) [some { row:=Row.rrecs [some IntKind.i64,some IntKind.i64,some IntKind.i64,some IntKind.i64,some IntKind.i64,some IntKind.i64,some IntKind.i64,some IntKind.i64,some IntKind.i64,some IntKind.i64,some IntKind.i64,some IntKind.i64,some IntKind.i64,some IntKind.i64,some IntKind.i64] t,ty:=39 },some { row:=Row.lst [iv X,iv Y,iv S,iv W,iv H],ty:=44 }] else bif decide (IntKind.wrap IntKind.i64 (W * H) > 200) then kk XE.ret ([MV.junk,MV.va 0 0 n 15,MV.ptr 1 0,MV.junk,MV.val (Value.bool true)] ++ J 91) [some { row:=Row.rrecs [some IntKind.i64,some IntKind.i64,some IntKind.i64,some IntKind.i64,some IntKind.i64,some IntKind.i64,some IntKind.i64,some IntKind.i64,some IntKind.i64,some IntKind.i64,some IntKind.i64,some IntKind.i64,some IntKind.i64,some IntKind.i64,some IntKind.i64] t,ty:=39 },some { row:=Row.lst [iv X,iv Y,iv S,iv W,iv H],ty:=44 }] else kk XE.normal ([MV.junk,MV.va 0 0 n 15,MV.ptr 1 0,MV.junk,MV.val (Value.bool false)] ++ J 91) [some { row:=Row.rrecs [some IntKind.i64,some IntKind.i64,some IntKind.i64,some IntKind.i64,some IntKind.i64,some IntKind.i64,some IntKind.i64,some IntKind.i64,some IntKind.i64,some IntKind.i64,some IntKind.i64,some IntKind.i64,some IntKind.i64,some IntKind.i64,some IntKind.i64] t,ty:=39 },some { row:=Row.lst [iv X,iv Y,iv S,iv W,iv H],ty:=44 }]:=by kernel_rfl
set_option maxRecDepth 100000 in
theorem ow3 (X Y S W H:Int) (n:Nat) (t:List (List Int)) (kk:KE):xcode Try.prog E F9 8 (cut c11 [1,1,0]) (t1_ n) [lB t,gB X Y S W H] (nk 1 [1,2,4,5] [0,1,3] kk) =
  bif List.length t == n && (decide (n ≤ 16777216) && (decide (0 ≤ 16777216) && List.length ([]:List (List Int)) == 0)) then kk XE.normal ([MV.junk,MV.va 0 0 n 15,MV.ptr 1 0,MV.junk,MV.val (Value.bool false),MV.gv 2 (0 + n) 15] ++ J 90) [some { row:=Row.rrecs [some IntKind.i64,some IntKind.i64,some IntKind.i64,some IntKind.i64,some IntKind.i64,some IntKind.i64,some IntKind.i64,some IntKind.i64,some IntKind.i64,some IntKind.i64,some IntKind.i64,some IntKind.i64,some IntKind.i64,some IntKind.i64,some IntKind.i64] t,ty:=39 },some { row:=Row.lst [iv X,iv Y,iv S,iv W,iv H],ty:=44 },some { row:=Row.recs [some IntKind.i64,some IntKind.i64,some IntKind.i64,some IntKind.i64,some IntKind.i64,some IntKind.i64,some IntKind.i64,some IntKind.i64,some IntKind.i64,some IntKind.i64,some IntKind.i64,some IntKind.i64,some IntKind.i64,some IntKind.i64,some IntKind.i64] ([] ++ t),ty:=39 }] else none:=by kernel_rfl
set_option maxRecDepth 100000 in
theorem ow4 (X Y S W H:Int) (n:Nat) (t:List (List Int)) (kk:KE):xcode Try.prog E F9 8 (cut c11 [1,1,1,0]) (t3_ n) [lB t,gB X Y S W H,oB t] (nk 1 [1,2,4,5,6,7] [0,1,2,5,4] kk) =
  bif decide (Pure.okG X Y S W H) then kk XE.normal ([MV.junk,MV.va 0 0 n 15,MV.ptr 1 0,MV.junk,MV.val (Value.bool false),MV.gv 2 n 15,MV.ptr 3 0,iv 0] ++ J 88) [some { row:=Row.rrecs [some IntKind.i64,some IntKind.i64,some IntKind.i64,some IntKind.i64,some IntKind.i64,some IntKind.i64,some IntKind.i64,some IntKind.i64,some IntKind.i64,some IntKind.i64,some IntKind.i64,some IntKind.i64,some IntKind.i64,some IntKind.i64,some IntKind.i64] t,ty:=39 },some { row:=Row.lst [iv X,iv Y,iv S,iv W,iv H],ty:=44 },some { row:=Row.recs [some IntKind.i64,some IntKind.i64,some IntKind.i64,some IntKind.i64,some IntKind.i64,some IntKind.i64,some IntKind.i64,some IntKind.i64,some IntKind.i64,some IntKind.i64,some IntKind.i64,some IntKind.i64,some IntKind.i64,some IntKind.i64,some IntKind.i64] t,ty:=39 },some { row:=Row.lst [iv X,iv Y,iv S,iv W,iv H,MV.val (Value.slice none 0 0),MV.va 4 0 (List.length (Pure.pic [] X Y S (Int.toNat W) (Int.toNat H))) 1],ty:=90 },some { row:=Row.recs [some IntKind.i64] (List.map (fun v => [v]) (Pure.pic [] X Y S (Int.toNat W) (Int.toNat H))),ty:=2 }] else none:=by kernel_rfl
set_option maxRecDepth 100000 in
theorem ow5 (X Y S W H:Int) (n:Nat) (t:List (List Int)) (nc:Nat) (cs:List (List Int)) (kk:KE):xcode Try.prog E F9 8 (cut c11 [1,1,1,1,0]) (t4_ n) [lB t,gB X Y S W H,oB t,bB X Y S W H (.val (.slice none 0 0)) 4 nc,cB cs] (nk 1 [1,2,4,5,6,7] [0,1,2,3,4,7] kk) =
  bif showOk X Y S W H 0 n nc cs [] t then kk XE.normal ([MV.junk,MV.va 0 0 n 15,MV.ptr 1 0,MV.junk,MV.val (Value.bool false),MV.gv 2 n 15,MV.ptr 3 0,iv 0] ++ J 88) [some { row:=Row.rrecs [some IntKind.i64,some IntKind.i64,some IntKind.i64,some IntKind.i64,some IntKind.i64,some IntKind.i64,some IntKind.i64,some IntKind.i64,some IntKind.i64,some IntKind.i64,some IntKind.i64,some IntKind.i64,some IntKind.i64,some IntKind.i64,some IntKind.i64] t,ty:=39 },some { row:=Row.lst [iv X,iv Y,iv S,iv W,iv H],ty:=44 },some { row:=Row.recs [some IntKind.i64,some IntKind.i64,some IntKind.i64,some IntKind.i64,some IntKind.i64,some IntKind.i64,some IntKind.i64,some IntKind.i64,some IntKind.i64,some IntKind.i64,some IntKind.i64,some IntKind.i64,some IntKind.i64,some IntKind.i64,some IntKind.i64] t,ty:=39 },some { row:=Row.lst [iv X,iv Y,iv S,iv W,iv H,MV.va 5 0 n 15,MV.va 4 0 nc 1],ty:=90 },some { row:=Row.recs [some IntKind.i64] (Prod.fst (showR X Y S W H t (harmL [] t) (cs,0))),ty:=2 },some { row:=Row.recs [some IntKind.i64,some IntKind.i64,some IntKind.i64,some IntKind.i64,some IntKind.i64,some IntKind.i64,some IntKind.i64,some IntKind.i64,some IntKind.i64,some IntKind.i64,some IntKind.i64,some IntKind.i64,some IntKind.i64,some IntKind.i64,some IntKind.i64] t,ty:=39 }] else none:=by kernel_rfl
set_option maxRecDepth 100000 in
theorem ow6 (X Y S W H:Int) (n:Nat) (t:List (List Int)) (nc:Nat) (cs u:List (List Int)) (kk:KE):xcode Try.prog E F9 8 (cut c11 [1,1,1,1,1,0,0]) (t4_ n) [lB t,gB X Y S W H,oB u,bB X Y S W H (.va 5 0 n 15) 4 nc,cB cs,oB t] (nk 1 [1,2,4,5,6,7,46,47] [0,1,2,3,4,5] kk) =
  kk XE.normal ([MV.junk,MV.va 0 0 n 15,MV.ptr 1 0,MV.junk,MV.val (Value.bool false),MV.gv 2 n 15,MV.ptr 3 0,iv 0] ++ J 38 ++ [iv (↑n:Int),iv 0] ++ J 48) [some { row:=Row.rrecs [some IntKind.i64,some IntKind.i64,some IntKind.i64,some IntKind.i64,some IntKind.i64,some IntKind.i64,some IntKind.i64,some IntKind.i64,some IntKind.i64,some IntKind.i64,some IntKind.i64,some IntKind.i64,some IntKind.i64,some IntKind.i64,some IntKind.i64] t,ty:=39 },some { row:=Row.lst [iv X,iv Y,iv S,iv W,iv H],ty:=44 },some { row:=Row.recs [some IntKind.i64,some IntKind.i64,some IntKind.i64,some IntKind.i64,some IntKind.i64,some IntKind.i64,some IntKind.i64,some IntKind.i64,some IntKind.i64,some IntKind.i64,some IntKind.i64,some IntKind.i64,some IntKind.i64,some IntKind.i64,some IntKind.i64] u,ty:=39 },some { row:=Row.lst [iv X,iv Y,iv S,iv W,iv H,MV.va 5 0 n 15,MV.va 4 0 nc 1],ty:=90 },some { row:=Row.recs [some IntKind.i64] cs,ty:=2 },some { row:=Row.recs [some IntKind.i64,some IntKind.i64,some IntKind.i64,some IntKind.i64,some IntKind.i64,some IntKind.i64,some IntKind.i64,some IntKind.i64,some IntKind.i64,some IntKind.i64,some IntKind.i64,some IntKind.i64,some IntKind.i64,some IntKind.i64,some IntKind.i64] t,ty:=39 }]:=by kernel_rfl
set_option maxRecDepth 100000 in
theorem ow7 (X Y S W H:Int) (n:Nat) (t:List (List Int)) (nc:Nat) (cs u:List (List Int)) (i:Int) (kk:KE):xcode Try.prog E F9 8 (cut c11 [1,1,1,1,1,0,1,0,0]) (t6_ n i) [lB t,gB X Y S W H,oB u,bB X Y S W H (.va 5 0 n 15) 4 nc,cB cs,oB t] (nk 1 [1,2,4,5,6,7,46,47] [0,1,2,3,4,5] kk) =
  bif decide (i < (↑n : Int)) then bif decide (0 ≤ i ∧ i < (↑n : Int)) then bif decide (Int.toNat i < List.length u) then bif decide (0 ≤ i ∧ i < (↑n : Int)) then bif decide (Int.toNat i < List.length u) then kk XE.normal ([MV.junk, MV.va 0 0 n 15, MV.ptr 1 0, MV.junk, MV.val (Value.bool false), MV.gv 2 n 15, MV.ptr 3 0, iv 0] ++ J 38 ++ [iv (↑n : Int), iv (IntKind.wrap IntKind.i64 (i + 1))] ++ J 48) [some { row := Row.rrecs [some IntKind.i64, some IntKind.i64, some IntKind.i64, some IntKind.i64, some IntKind.i64, some IntKind.i64, some IntKind.i64, some IntKind.i64, some IntKind.i64, some IntKind.i64, some IntKind.i64, some IntKind.i64, some IntKind.i64, some IntKind.i64, some IntKind.i64] t, ty := 39 }, some { row := Row.lst [iv X, iv Y, iv S, iv W, iv H], ty := 44 }, some { row := Row.recs [some IntKind.i64, some IntKind.i64, some IntKind.i64, some IntKind.i64, some IntKind.i64, some IntKind.i64, some IntKind.i64, some IntKind.i64, some IntKind.i64, some IntKind.i64, some IntKind.i64, some IntKind.i64, some IntKind.i64, some IntKind.i64, some IntKind.i64] (List.set u (Int.toNat i) (setRec (i64s 15) 0 (List.getD u (Int.toNat i) []) (0 + Field.offset #[{ name := "Node", type := 3, offset := 0, embedded := false, tag := "", pkgPath := "", byteOffset := 0 }, { name := "Kind", type := 3, offset := 1, embedded := false, tag := "", pkgPath := "", byteOffset := 8 }, { name := "R", type := 37, offset := 2, embedded := false, tag := "", pkgPath := "", byteOffset := 16 }, { name := "Hole", type := 37, offset := 6, embedded := false, tag := "", pkgPath := "", byteOffset := 48 }, { name := "Clip", type := 37, offset := 10, embedded := false, tag := "", pkgPath := "", byteOffset := 80 }, { name := "Color", type := 2, offset := 14, embedded := false, tag := "", pkgPath := "", byteOffset := 112 }][5]) (IntKind.wrap IntKind.i64 (List.getD (List.getD u (Int.toNat i) []) (0 + 1 + 1 + 1 + 1 + 1 + 1 + 1 + 1 + 1 + 1 + 1 + 1 + 1 + 1) 0 + 1)))), ty := 39 }, some { row := Row.lst [iv X, iv Y, iv S, iv W, iv H, MV.va 5 0 n 15, MV.va 4 0 nc 1], ty := 90 }, some { row := Row.recs [some IntKind.i64] cs, ty := 2 }, some { row := Row.recs [some IntKind.i64, some IntKind.i64, some IntKind.i64, some IntKind.i64, some IntKind.i64, some IntKind.i64, some IntKind.i64, some IntKind.i64, some IntKind.i64, some IntKind.i64, some IntKind.i64, some IntKind.i64, some IntKind.i64, some IntKind.i64, some IntKind.i64] t, ty := 39 }] else none else none else none else none else kk (XE.exit 0) ([MV.junk, MV.va 0 0 n 15, MV.ptr 1 0, MV.junk, MV.val (Value.bool false), MV.gv 2 n 15, MV.ptr 3 0, iv 0] ++ J 38 ++ [iv (↑n : Int), iv i] ++ J 48) [some { row := Row.rrecs [some IntKind.i64, some IntKind.i64, some IntKind.i64, some IntKind.i64, some IntKind.i64, some IntKind.i64, some IntKind.i64, some IntKind.i64, some IntKind.i64, some IntKind.i64, some IntKind.i64, some IntKind.i64, some IntKind.i64, some IntKind.i64, some IntKind.i64] t, ty := 39 }, some { row := Row.lst [iv X, iv Y, iv S, iv W, iv H], ty := 44 }, some { row := Row.recs [some IntKind.i64, some IntKind.i64, some IntKind.i64, some IntKind.i64, some IntKind.i64, some IntKind.i64, some IntKind.i64, some IntKind.i64, some IntKind.i64, some IntKind.i64, some IntKind.i64, some IntKind.i64, some IntKind.i64, some IntKind.i64, some IntKind.i64] u, ty := 39 }, some { row := Row.lst [iv X, iv Y, iv S, iv W, iv H, MV.va 5 0 n 15, MV.va 4 0 nc 1], ty := 90 }, some { row := Row.recs [some IntKind.i64] cs, ty := 2 }, some { row := Row.recs [some IntKind.i64, some IntKind.i64, some IntKind.i64, some IntKind.i64, some IntKind.i64, some IntKind.i64, some IntKind.i64, some IntKind.i64, some IntKind.i64, some IntKind.i64, some IntKind.i64, some IntKind.i64, some IntKind.i64, some IntKind.i64, some IntKind.i64] t, ty := 39 }] := by kernel_rfl
set_option maxRecDepth 100000 in
theorem ow11 (X Y S W H:Int) (n:Nat) (t:List (List Int)) (nc:Nat) (cs u:List (List Int)) (i:Int) (kk:KE):xcode Try.prog E F9 8 (cut c11 [1,1,1,1,1,1,0]) (t6_ n i) [lB t,gB X Y S W H,oB u,bB X Y S W H (.va 5 0 n 15) 4 nc,cB cs,oB t] (nk 1 [1,2,4,6,7,9] [0,1,3,4,5,6] kk) =
  bif decide (List.length cs = nc ∧ List.length cs ≤ 1000000) then kk XE.normal ([MV.junk,MV.va 0 0 n 15,MV.ptr 1 0,MV.junk,MV.val (Value.bool false),MV.junk,MV.ptr 2 0,iv 0,MV.junk,MV.va 5 0 (List.length cs) 1] ++ J 86) [some { row:=Row.rrecs [some IntKind.i64,some IntKind.i64,some IntKind.i64,some IntKind.i64,some IntKind.i64,some IntKind.i64,some IntKind.i64,some IntKind.i64,some IntKind.i64,some IntKind.i64,some IntKind.i64,some IntKind.i64,some IntKind.i64,some IntKind.i64,some IntKind.i64] t,ty:=39 },some { row:=Row.lst [iv X,iv Y,iv S,iv W,iv H],ty:=44 },some { row:=Row.lst [iv X,iv Y,iv S,iv W,iv H,MV.va 4 0 n 15,MV.va 3 0 nc 1],ty:=90 },some { row:=Row.recs [some IntKind.i64] cs,ty:=2 },some { row:=Row.recs [some IntKind.i64,some IntKind.i64,some IntKind.i64,some IntKind.i64,some IntKind.i64,some IntKind.i64,some IntKind.i64,some IntKind.i64,some IntKind.i64,some IntKind.i64,some IntKind.i64,some IntKind.i64,some IntKind.i64,some IntKind.i64,some IntKind.i64] t,ty:=39 },some { row:=Row.recs [some IntKind.i64] cs,ty:=2 }] else none:=by kernel_rfl
set_option maxRecDepth 100000 in
theorem ow12 (X Y S W H:Int) (n:Nat) (t:List (List Int)) (nc:Nat) (cs ds:List (List Int)) (kk:KE):xcode Try.prog E F9 8 (cut c11 [1,1,1,1,1,1,1,0,0]) (t11_ n nc) [lB t,gB X Y S W H,bB X Y S W H (.va 4 0 n 15) 3 nc,cB cs,oB t,cB ds] (nk 1 [1,2,4,6,7,9,64,65] [0,1,2,3,4,5] kk) =
  kk XE.normal ([MV.junk,MV.va 0 0 n 15,MV.ptr 1 0,MV.junk,MV.val (Value.bool false),MV.junk,MV.ptr 2 0,iv 0,MV.junk,MV.va 5 0 nc 1] ++ J 54 ++ [iv (↑nc:Int),iv 0] ++ J 30) [some { row:=Row.rrecs [some IntKind.i64,some IntKind.i64,some IntKind.i64,some IntKind.i64,some IntKind.i64,some IntKind.i64,some IntKind.i64,some IntKind.i64,some IntKind.i64,some IntKind.i64,some IntKind.i64,some IntKind.i64,some IntKind.i64,some IntKind.i64,some IntKind.i64] t,ty:=39 },some { row:=Row.lst [iv X,iv Y,iv S,iv W,iv H],ty:=44 },some { row:=Row.lst [iv X,iv Y,iv S,iv W,iv H,MV.va 4 0 n 15,MV.va 3 0 nc 1],ty:=90 },some { row:=Row.recs [some IntKind.i64] cs,ty:=2 },some { row:=Row.recs [some IntKind.i64,some IntKind.i64,some IntKind.i64,some IntKind.i64,some IntKind.i64,some IntKind.i64,some IntKind.i64,some IntKind.i64,some IntKind.i64,some IntKind.i64,some IntKind.i64,some IntKind.i64,some IntKind.i64,some IntKind.i64,some IntKind.i64] t,ty:=39 },some { row:=Row.recs [some IntKind.i64] ds,ty:=2 }]:=by kernel_rfl
set_option maxRecDepth 100000 in
theorem ow13 (X Y S W H:Int) (n:Nat) (t:List (List Int)) (nc:Nat) (cs ds:List (List Int)) (i:Int) (kk:KE):xcode Try.prog E F9 8 (cut c11 [1,1,1,1,1,1,1,0,1,0,0]) (t12_ n nc i) [lB t,gB X Y S W H,bB X Y S W H (.va 4 0 n 15) 3 nc,cB cs,oB t,cB ds] (nk 1 [1,2,4,6,7,9,64,65] [0,1,2,3,4,5] kk) =
  bif decide (i < (↑nc:Int)) then bif decide (0 ≤ i ∧ i < (↑nc:Int)) then bif decide (0 + Int.toNat i < List.length ds) then kk XE.normal ([MV.junk,MV.va 0 0 n 15,MV.ptr 1 0,MV.junk,MV.val (Value.bool false),MV.junk,MV.ptr 2 0,iv 0,MV.junk,MV.va 5 0 nc 1] ++ J 54 ++ [iv (↑nc:Int),iv (IntKind.wrap IntKind.i64 (i + 1))] ++ J 30) [some { row:=Row.rrecs [some IntKind.i64,some IntKind.i64,some IntKind.i64,some IntKind.i64,some IntKind.i64,some IntKind.i64,some IntKind.i64,some IntKind.i64,some IntKind.i64,some IntKind.i64,some IntKind.i64,some IntKind.i64,some IntKind.i64,some IntKind.i64,some IntKind.i64] t,ty:=39 },some { row:=Row.lst [iv X,iv Y,iv S,iv W,iv H],ty:=44 },some { row:=Row.lst [iv X,iv Y,iv S,iv W,iv H,MV.va 4 0 n 15,MV.va 3 0 nc 1],ty:=90 },some { row:=Row.recs [some IntKind.i64] cs,ty:=2 },some { row:=Row.recs [some IntKind.i64,some IntKind.i64,some IntKind.i64,some IntKind.i64,some IntKind.i64,some IntKind.i64,some IntKind.i64,some IntKind.i64,some IntKind.i64,some IntKind.i64,some IntKind.i64,some IntKind.i64,some IntKind.i64,some IntKind.i64,some IntKind.i64] t,ty:=39 },some { row:=Row.recs [some IntKind.i64] (List.set ds (0 + Int.toNat i) (setRec (i64s 1) 0 (List.getD ds (0 + Int.toNat i) []) 0 99)),ty:=2 }] else none else none else kk (XE.exit 2) ([MV.junk,MV.va 0 0 n 15,MV.ptr 1 0,MV.junk,MV.val (Value.bool false),MV.junk,MV.ptr 2 0,iv 0,MV.junk,MV.va 5 0 nc 1] ++ J 54 ++ [iv (↑nc:Int),iv i] ++ J 30) [some { row:=Row.rrecs [some IntKind.i64,some IntKind.i64,some IntKind.i64,some IntKind.i64,some IntKind.i64,some IntKind.i64,some IntKind.i64,some IntKind.i64,some IntKind.i64,some IntKind.i64,some IntKind.i64,some IntKind.i64,some IntKind.i64,some IntKind.i64,some IntKind.i64] t,ty:=39 },some { row:=Row.lst [iv X,iv Y,iv S,iv W,iv H],ty:=44 },some { row:=Row.lst [iv X,iv Y,iv S,iv W,iv H,MV.va 4 0 n 15,MV.va 3 0 nc 1],ty:=90 },some { row:=Row.recs [some IntKind.i64] cs,ty:=2 },some { row:=Row.recs [some IntKind.i64,some IntKind.i64,some IntKind.i64,some IntKind.i64,some IntKind.i64,some IntKind.i64,some IntKind.i64,some IntKind.i64,some IntKind.i64,some IntKind.i64,some IntKind.i64,some IntKind.i64,some IntKind.i64,some IntKind.i64,some IntKind.i64] t,ty:=39 },some { row:=Row.recs [some IntKind.i64] ds,ty:=2 }]:=by kernel_rfl
set_option maxRecDepth 100000 in
theorem ow17 (X Y S W H:Int) (n:Nat) (t:List (List Int)) (nc:Nat) (cs ds:List (List Int)) (i:Int) (kk:KE):xcode Try.prog E F9 8 (cut c11 [1,1,1,1,1,1,1,1,0]) (t12_ n nc i) [lB t,gB X Y S W H,bB X Y S W H (.va 4 0 n 15) 3 nc,cB cs,oB t,cB ds] (nk 1 [1,2,4,6,7,11,12] [0,1,2,3,7] kk) =
  bif showOk X Y S W H n n nc cs t t then kk XE.normal ([MV.junk,MV.va 0 0 n 15,MV.ptr 1 0,MV.junk,MV.val (Value.bool false),MV.junk,MV.ptr 2 0,iv 0,MV.junk,MV.junk,MV.junk,iv (Prod.snd (showR X Y S W H t (harmL t t) (cs,0))),iv 0] ++ J 83) [some { row:=Row.rrecs [some IntKind.i64,some IntKind.i64,some IntKind.i64,some IntKind.i64,some IntKind.i64,some IntKind.i64,some IntKind.i64,some IntKind.i64,some IntKind.i64,some IntKind.i64,some IntKind.i64,some IntKind.i64,some IntKind.i64,some IntKind.i64,some IntKind.i64] t,ty:=39 },some { row:=Row.lst [iv X,iv Y,iv S,iv W,iv H],ty:=44 },some { row:=Row.lst [iv X,iv Y,iv S,iv W,iv H,MV.va 4 0 n 15,MV.va 3 0 nc 1],ty:=90 },some { row:=Row.recs [some IntKind.i64] (Prod.fst (showR X Y S W H t (harmL t t) (cs,0))),ty:=2 },some { row:=Row.recs [some IntKind.i64,some IntKind.i64,some IntKind.i64,some IntKind.i64,some IntKind.i64,some IntKind.i64,some IntKind.i64,some IntKind.i64,some IntKind.i64,some IntKind.i64,some IntKind.i64,some IntKind.i64,some IntKind.i64,some IntKind.i64,some IntKind.i64] t,ty:=39 }] else none:=by kernel_rfl
set_option maxRecDepth 100000 in
theorem ow18 (X Y S W H:Int) (n:Nat) (t:List (List Int)) (nc:Nat) (cs:List (List Int)) (q:Int) (kk:KE):xcode Try.prog E F9 8 (cut c11 [1,1,1,1,1,1,1,1,1,0]) (t17_ n q) [lB t,gB X Y S W H,bB X Y S W H (.va 4 0 n 15) 3 nc,cB cs,oB t] (nk 1 [4] [0] kk) =
  bif q == 0 then bif decide (List.length cs = nc ∧ List.length cs ≤ 1000000) then bif List.length t == n then bif decide (List.length t ≤ 1000 ∧ Pure.okG X Y S W H) then bif List.length cs == List.length cs then bif List.length (picL t X Y S (Int.toNat W) (Int.toNat H)) == List.length (picL t X Y S (Int.toNat W) (Int.toNat H)) then bif decide (List.length cs ≤ 1000000 ∧ List.length (picL t X Y S (Int.toNat W) (Int.toNat H)) ≤ 1000000) then kk XE.normal (J 4 ++ [MV.val (Value.bool (sameB cs (picL t X Y S (Int.toNat W) (Int.toNat H))))] ++ J 91) [some { row:=Row.rrecs [some IntKind.i64,some IntKind.i64,some IntKind.i64,some IntKind.i64,some IntKind.i64,some IntKind.i64,some IntKind.i64,some IntKind.i64,some IntKind.i64,some IntKind.i64,some IntKind.i64,some IntKind.i64,some IntKind.i64,some IntKind.i64,some IntKind.i64] t,ty:=39 }] else none else none else none else none else none else none else kk XE.normal (J 4 ++ [MV.val (Value.bool false)] ++ J 91) [some { row:=Row.rrecs [some IntKind.i64,some IntKind.i64,some IntKind.i64,some IntKind.i64,some IntKind.i64,some IntKind.i64,some IntKind.i64,some IntKind.i64,some IntKind.i64,some IntKind.i64,some IntKind.i64,some IntKind.i64,some IntKind.i64,some IntKind.i64,some IntKind.i64] t,ty:=39 }]:=by kernel_rfl
end Go.Proofs.Ytppklhfiajjhmaa.Ti
end
section
namespace Go.Proofs.Ytppklhfiajjhmaa.Ti
open Go Go.RowKit Go.Proofs.Ytppklhfiajjhmaa.Y Go.Proofs.Ytppklhfiajjhmaa.AskWords Go.Proofs.Ytppklhfiajjhmaa.Reads Go.Proofs.Ytppklhfiajjhmaa.PPT
set_option linter.unusedVariables false
set_option linter.unusedSimpArgs false
theorem harmL_self (l:List (List Int)):harmL l l = []:=by
 unfold harmL Pure.harm Pure.midA
 have e:Pure.midB (l.map dec39) (l.map dec39) = Pure.midA (l.map dec39) (l.map dec39):=Pure.midB_eq _ _
 have e2:Pure.midA (l.map dec39) (l.map dec39) = []:=by
  unfold Pure.midA
  rw [Pure.pre_self,List.drop_length]
  rfl
 unfold Pure.midA at e e2
 rw [e,e2]
 rfl
def tR_ (n:Nat):List MV:=[.junk,.va 0 0 n 15,.ptr 1 0,.junk,.val (.bool true)] ++ J 91
def m6_ (X Y S W H:Int) (n:Nat) (t:List (List Int)) (nc:Nat) (cs u:List (List Int)):Mem:=[lB t,gB X Y S W H,oB u,bB X Y S W H (.va 5 0 n 15) 4 nc,cB cs,oB t]
def m12_ (X Y S W H:Int) (n:Nat) (t:List (List Int)) (nc:Nat) (cs ds:List (List Int)):Mem:=[lB t,gB X Y S W H,bB X Y S W H (.va 4 0 n 15) 3 nc,cB cs,oB t,cB ds]
theorem c11_l1:cut c11 [1,1,1,1,1,0,1,0] = .loop (cut c11 [1,1,1,1,1,0,1,0,0]):=by kernel_rfl
theorem c11_l2:cut c11 [1,1,1,1,1,1,1,0,1,0] = .loop (cut c11 [1,1,1,1,1,1,1,0,1,0,0]):=by kernel_rfl
theorem own_l1 (X Y S W H:Int) (n:Nat) (t:List (List Int)) (nc:Nat) (cs u:List (List Int)) (hn:n ≤ 5) (hu:u.length = n) :
  XN Try.prog F9.env 1 (cut c11 [1,1,1,1,1,0,1,0]) (t6_ n 0) (m6_ X Y S W H n t nc cs u) (fun e tm' m' => e = .exit 0 ∧ ∃ i u',tm' = t6_ n i ∧ m' = m6_ X Y S W H n t nc cs u'):=by
 refine XN.cast c11_l1 ?_
 refine XN.loop (fun j tm m => ∃ (i:Nat) (u':List (List Int)),i ≤ n ∧ j = n - i ∧ u'.length = n ∧ tm = t6_ n i ∧ m = m6_ X Y S W H n t nc cs u') ?_ (j:=n) ⟨0,u,Nat.zero_le _,rfl,hu,rfl,rfl⟩
 rintro j tm m ⟨i,u',h1,rfl,h3,rfl,rfl⟩
 by_cases h:i < n
 ·have c1:decide ((i:Int) < (n:Int)) = true:=decide_eq_true (by omega)
  have c2:decide (0 ≤ (i:Int) ∧ (i:Int) < (n:Int)) = true:=decide_eq_true (by omega)
  have c3:decide (Int.toNat (i:Int) < u'.length) = true:=decide_eq_true (by omega)
  have c4:IntKind.wrap IntKind.i64 ((i:Int) + 1) = ((i + 1:Nat):Int):=(w6_id (n:=(i:Int) + 1) (by omega) (by omega)).trans (by push_cast; rfl)
  refine XN.of_xn E_ok F9_ok mixed (K:=[1,2,4,5,6,7,46,47]) (rs:=[0,1,2,3,4,5]) (e:=.normal) (tm':=t6_ n ((i + 1:Nat):Int)) (m':=m6_ X Y S W H n t nc cs (u'.set (Int.toNat i) (setRec (i64s 15) 0 (u'.getD (Int.toNat i) []) 14 (IntKind.wrap .i64 ((u'.getD (Int.toNat i) []).getD 14 0 + 1))))) (fun kk => (ow7 X Y S W H n t nc cs u' i kk).trans ?_) ?_
  ·simp only [c1,c2,c3,cond_true,c4]
   rfl
  ·exact ⟨n - (i + 1),by omega,i + 1,_,by omega,rfl,by rw [List.length_set]; exact h3,rfl,rfl⟩
 ·have c1:decide ((i:Int) < (n:Int)) = false:=decide_eq_false (by omega)
  refine XN.of_xn E_ok F9_ok mixed (K:=[1,2,4,5,6,7,46,47]) (rs:=[0,1,2,3,4,5]) (e:=.exit 0) (tm':=t6_ n i) (m':=m6_ X Y S W H n t nc cs u') (fun kk => (ow7 X Y S W H n t nc cs u' i kk).trans ?_) ⟨rfl,i,u',rfl,rfl⟩
  simp only [c1,cond_false]
  rfl
theorem own_l2 (X Y S W H:Int) (n:Nat) (t:List (List Int)) (nc:Nat) (cs ds:List (List Int)) (hn:nc ≤ 1000000) (hu:ds.length = nc) :
  XN Try.prog F9.env 1 (cut c11 [1,1,1,1,1,1,1,0,1,0]) (t12_ n nc 0) (m12_ X Y S W H n t nc cs ds) (fun e tm' m' => e = .exit 2 ∧ ∃ i ds',tm' = t12_ n nc i ∧ m' = m12_ X Y S W H n t nc cs ds'):=by
 refine XN.cast c11_l2 ?_
 refine XN.loop (fun j tm m => ∃ (i:Nat) (u':List (List Int)),i ≤ nc ∧ j = nc - i ∧ u'.length = nc ∧ tm = t12_ n nc i ∧ m = m12_ X Y S W H n t nc cs u') ?_ (j:=nc) ⟨0,ds,Nat.zero_le _,rfl,hu,rfl,rfl⟩
 rintro j tm m ⟨i,u',h1,rfl,h3,rfl,rfl⟩
 by_cases h:i < nc
 ·have c1:decide ((i:Int) < (nc:Int)) = true:=decide_eq_true (by omega)
  have c2:decide (0 ≤ (i:Int) ∧ (i:Int) < (nc:Int)) = true:=decide_eq_true (by omega)
  have c3:decide (0 + Int.toNat (i:Int) < u'.length) = true:=decide_eq_true (by omega)
  have c4:IntKind.wrap IntKind.i64 ((i:Int) + 1) = ((i + 1:Nat):Int):=(w6_id (n:=(i:Int) + 1) (by omega) (by omega)).trans (by push_cast; rfl)
  refine XN.of_xn E_ok F9_ok mixed (K:=[1,2,4,6,7,9,64,65]) (rs:=[0,1,2,3,4,5]) (e:=.normal) (tm':=t12_ n nc ((i + 1:Nat):Int)) (m':=m12_ X Y S W H n t nc cs (u'.set (0 + Int.toNat i) (setRec (i64s 1) 0 (u'.getD (0 + Int.toNat i) []) 0 99))) (fun kk => (ow13 X Y S W H n t nc cs u' i kk).trans ?_) ?_
  ·simp only [c1,c2,c3,cond_true,c4]
   rfl
  ·exact ⟨nc - (i + 1),by omega,i + 1,_,by omega,rfl,by rw [List.length_set]; exact h3,rfl,rfl⟩
 ·have c1:decide ((i:Int) < (nc:Int)) = false:=decide_eq_false (by omega)
  refine XN.of_xn E_ok F9_ok mixed (K:=[1,2,4,6,7,9,64,65]) (rs:=[0,1,2,3,4,5]) (e:=.exit 2) (tm':=t12_ n nc i) (m':=m12_ X Y S W H n t nc cs u') (fun kk => (ow13 X Y S W H n t nc cs u' i kk).trans ?_) ⟨rfl,i,u',rfl,rfl⟩
  simp only [c1,cond_false]
  rfl
theorem c11_eq:c11 = .seq (cut c11 [0]) (.seq (cut c11 [1,0]) (.seq (cut c11 [1,1,0]) (.seq (cut c11 [1,1,1,0]) (.seq (cut c11 [1,1,1,1,0]) (.seq (.seq (cut c11 [1,1,1,1,1,0,0]) (.block 0 (cut c11 [1,1,1,1,1,0,1,0]))) (.seq (cut c11 [1,1,1,1,1,1,0]) (.seq (.seq (cut c11 [1,1,1,1,1,1,1,0,0]) (.block 2 (cut c11 [1,1,1,1,1,1,1,0,1,0]))) (.seq (cut c11 [1,1,1,1,1,1,1,1,0]) (.seq (cut c11 [1,1,1,1,1,1,1,1,1,0]) (cut c11 [1,1,1,1,1,1,1,1,1,1])))))))))):=by kernel_rfl
def tE_:List MV:=J 4 ++ [.val (.bool true)] ++ J 91
theorem own_end (t:List (List Int)) (kk:KE):xcode Try.prog E F9 8 (cut c11 [1,1,1,1,1,1,1,1,1,1]) tE_ [lB t] kk = kk .ret tE_ [lB t]:=by kernel_rfl
theorem own_res (n:Nat) (m:Mem):∃ vs,xres Try.prog (tR_ n) m Try.f11.results.toList = some vs ∧ xpack vs = .val (.bool true):=⟨[.val (.bool true)],rfl,rfl⟩
theorem own_res2 (m:Mem):∃ vs,xres Try.prog tE_ m Try.f11.results.toList = some vs ∧ xpack vs = .val (.bool true):=⟨[.val (.bool true)],rfl,rfl⟩
theorem own_x (X Y S W H:Int) (t:List (List Int)):XF Try.prog F9.env 11 [.agg [iv X,iv Y,iv S,iv W,iv H],.va 0 0 t.length 15] [lB t] (fun v m' => v = .val (.bool true)):=by
 refine XF.of_codeN Try.func11 (c:=c11) (by kernel_rfl) ?_
 refine XN.cast c11_eq ?_
 refine XN.seq_xn (n:=1) E_ok F9_ok mixed (fun kk => ow0 X Y S W H t.length t kk) ?_
 refine XN.seq ?_
 cases h1:decide ((t.length:Int) > 5) with
 | true =>
  refine XN.of_xn E_ok F9_ok mixed (K:=[1,2,4]) (rs:=[0,1]) (e:=.ret) (tm':=tR_ t.length) (m':=[lB t,gB X Y S W H]) (fun kk => (ow1 X Y S W H t.length t kk).trans (by simp only [h1,cond_true]; rfl)) ?_
  exact own_res _ _
 | false =>
 cases h2:decide (Pure.okG X Y S W H) with
 | false =>
  refine XN.of_xn E_ok F9_ok mixed (K:=[1,2,4]) (rs:=[0,1]) (e:=.ret) (tm':=tR_ t.length) (m':=[lB t,gB X Y S W H]) (fun kk => (ow1 X Y S W H t.length t kk).trans (by simp only [h1,h2,cond_true,cond_false,Bool.not_false]; rfl)) ?_
  exact own_res _ _
 | true =>
 cases h3:decide (IntKind.wrap IntKind.i64 (W * H) > 200) with
 | true =>
  refine XN.of_xn E_ok F9_ok mixed (K:=[1,2,4]) (rs:=[0,1]) (e:=.ret) (tm':=tR_ t.length) (m':=[lB t,gB X Y S W H]) (fun kk => (ow1 X Y S W H t.length t kk).trans (by simp only [h1,h2,h3,cond_true,cond_false,Bool.not_true]; rfl)) ?_
  exact own_res _ _
 | false =>
 have ht:t.length ≤ 5:=by have:=of_decide_eq_false h1; omega
 have hG:=of_decide_eq_true h2
 obtain ⟨Wn,rfl⟩:∃ n:Nat,W = n:=⟨W.toNat,by obtain ⟨g,_⟩:=hG; omega⟩
 obtain ⟨Hn,rfl⟩:∃ n:Nat,H = n:=⟨H.toNat,by obtain ⟨_,g,_⟩:=hG; omega⟩
 refine XN.of_xn E_ok F9_ok mixed (K:=[1,2,4]) (rs:=[0,1]) (e:=.normal) (tm':=t1_ t.length) (m':=[lB t,gB X Y S Wn Hn]) (fun kk => (ow1 X Y S Wn Hn t.length t kk).trans (by simp only [h1,h2,h3,cond_true,cond_false,Bool.not_true]; rfl)) ?_
 have e0:(0 + t.length) = t.length:=Nat.zero_add _
 have e1:(List.length t == t.length && (decide (t.length ≤ 16777216) && (decide (0 ≤ 16777216) && List.length ([]:List (List Int)) == 0))) = true:=by simp; omega
 refine XN.seq_xn E_ok F9_ok mixed (K:=[1,2,4,5]) (rs:=[0,1,3]) (tm':=t3_ t.length) (m':=[lB t,gB X Y S Wn Hn,oB t]) (fun kk => (ow3 X Y S Wn Hn t.length t kk).trans (by rw [e1,e0]; rfl)) ?_
 have hz:=(grid_HW hG).1
 have hcs:(picL [] X Y S Wn Hn).length ≤ 1000000:=by rw [picL_len]; omega
 refine XN.seq_xn E_ok F9_ok mixed (K:=[1,2,4,5,6,7]) (rs:=[0,1,2,5,4]) (tm':=t4_ t.length) (m':=[lB t,gB X Y S Wn Hn,oB t,bB X Y S Wn Hn (.val (.slice none 0 0)) 4 (picL [] X Y S Wn Hn).length,cB (picL [] X Y S Wn Hn)]) (fun kk => (ow4 X Y S Wn Hn t.length t kk).trans (by simp only [h2,cond_true,Int.toNat_natCast,pic_nil,pic_nil_len]; rfl)) ?_
 have s0:=showOk_pic hG [] t (by simp) ht
 rw [List.length_nil] at s0
 refine XN.seq_xn E_ok F9_ok mixed (K:=[1,2,4,5,6,7]) (rs:=[0,1,2,3,4,7]) (tm':=t4_ t.length) (m':=m6_ X Y S Wn Hn t.length t (picL [] X Y S Wn Hn).length (picL t X Y S Wn Hn) t) (fun kk => (ow5 X Y S Wn Hn t.length t _ (picL [] X Y S Wn Hn) kk).trans (by rw [s0,show_pic hG]; rfl)) ?_
 refine XN.seq ?_
 refine XN.seq_xn E_ok F9_ok mixed (K:=[1,2,4,5,6,7,46,47]) (rs:=[0,1,2,3,4,5]) (tm':=t6_ t.length 0) (m':=m6_ X Y S Wn Hn t.length t (picL [] X Y S Wn Hn).length (picL t X Y S Wn Hn) t) (fun kk => (ow6 X Y S Wn Hn t.length t _ (picL t X Y S Wn Hn) t kk).trans rfl) ?_
 refine XN.block (XN.mono (own_l1 X Y S Wn Hn t.length t _ _ t ht rfl) ?_)
 rintro e tm6 m6 ⟨rfl,i,u',rfl,rfl⟩
 simp only [if_true]
 have b1:=big_ok hG t
 refine XN.seq_xn E_ok F9_ok mixed (K:=[1,2,4,6,7,9]) (rs:=[0,1,3,4,5,6]) (tm':=t11_ t.length (picL t X Y S Wn Hn).length) (m':=m12_ X Y S Wn Hn t.length t (picL [] X Y S Wn Hn).length (picL t X Y S Wn Hn) (picL t X Y S Wn Hn)) (fun kk => (ow11 X Y S Wn Hn t.length t _ (picL t X Y S Wn Hn) u' i kk).trans (by rw [b1]; rfl)) ?_
 have ec:(picL t X Y S Wn Hn).length = (picL [] X Y S Wn Hn).length:=by rw [picL_len,picL_len]
 rw [ec]
 refine XN.seq ?_
 refine XN.seq_xn E_ok F9_ok mixed (K:=[1,2,4,6,7,9,64,65]) (rs:=[0,1,2,3,4,5]) (tm':=t12_ t.length (picL [] X Y S Wn Hn).length 0) (m':=m12_ X Y S Wn Hn t.length t (picL [] X Y S Wn Hn).length (picL t X Y S Wn Hn) (picL t X Y S Wn Hn)) (fun kk => (ow12 X Y S Wn Hn t.length t _ (picL t X Y S Wn Hn) (picL t X Y S Wn Hn) kk).trans rfl) ?_
 refine XN.block (XN.mono (own_l2 X Y S Wn Hn t.length t _ _ (picL t X Y S Wn Hn) hcs ec) ?_)
 rintro e tm6 m6 ⟨rfl,i2,ds',rfl,rfl⟩
 simp only [if_true]
 have s1:=showOk_pic hG t t ht ht
 have er:showR X Y S Wn Hn t (harmL t t) (picL t X Y S Wn Hn,0) = (picL t X Y S Wn Hn,0):=by rw [harmL_self]; rfl
 refine XN.seq_xn E_ok F9_ok mixed (K:=[1,2,4,6,7,11,12]) (rs:=[0,1,2,3,7]) (tm':=t17_ t.length 0) (m':=[lB t,gB X Y S Wn Hn,bB X Y S Wn Hn (.va 4 0 t.length 15) 3 (picL [] X Y S Wn Hn).length,cB (picL t X Y S Wn Hn),oB t]) (fun kk => (ow17 X Y S Wn Hn t.length t _ (picL t X Y S Wn Hn) ds' i2 kk).trans (by rw [s1,er]; rfl)) ?_
 refine XN.seq_xn E_ok F9_ok mixed (K:=[4]) (rs:=[0]) (tm':=tE_) (m':=[lB t]) (fun kk => (ow18 X Y S Wn Hn t.length t _ (picL t X Y S Wn Hn) 0 kk).trans ?_) ?_
 ·have f:=few_ok hG t ht
  have b2:=big2_ok hG t
  simp only [Int.toNat_natCast,beq_self_eq_true,b1,f,b2,cond_true,same_self]
  rfl
 refine XN.of_x E_ok F9_ok mixed (fun kk => own_end t kk) ?_
 exact own_res2 _
theorem TilesOwn_any (X Y S W H:Int) (A:Option Addr) (c:Nat) (ys:List (List Value)) (w:World) (hc:ys.length ≤ c) (hr:Go.Proofs.Ytppklhfiajjhmaa.Reads.Rows w A 15 (List.replicate 15 isI64) ys) :
  Calls Try.prog 11 #[.agg #[.int .i64 X,.int .i64 Y,.int .i64 S,.int .i64 W,.int .i64 H],.slice A ys.length c] w (IsTrue w):=by
 obtain ⟨e,⟨k1,k2⟩,h2,h3⟩:=in1 hc hr
 have hA:Value.slice e.A e.it.length e.c = .slice A ys.length c:=h2
 rw [← hA]
 have hrm:RM ⟨w.heap.size,fun _ => False⟩ w (sgOf w (fun _ => .nilIface) [e.b]) [lB e.it] w:=by
  refine rm_ins _ [e.b] (fun i x hi => ?_)
  cases i with
  | zero =>
   simp only [List.getElem?_cons_zero,Option.some.injEq] at hi
   subst hi
   exact ⟨rfl,k2,rows_RVs _ _ _⟩
  | succ i => simp at hi
 have hv:RV (sgOf w (fun _ => .nilIface) [e.b]) (.va 0 0 e.it.length 15) (.slice e.A e.it.length e.c):=by
  refine va_in (e:=e.b) rfl k2 k1 (fun hp hc => ?_)
  have:=rowsV_len (i64s 15) e.it
  have hc':rowsV (i64s 15) e.it = []:=hc
  rw [hc'] at this
  simp [i64s] at this
  omega
 have hg:RVs (sgOf w (fun _ => .nilIface) [e.b]) [.agg [iv X,iv Y,iv S,iv W,iv H],.va 0 0 e.it.length 15] [.agg #[.int .i64 X,.int .i64 Y,.int .i64 S,.int .i64 W,.int .i64 H],.slice e.A e.it.length e.c]:=by
  simp only [RVs]
  refine ⟨_,_,rfl,?_,_,_,rfl,hv,rfl⟩
  simp only [RV]
  exact ⟨_,RVs.vals [.int .i64 X,.int .i64 Y,.int .i64 S,.int .i64 W,.int .i64 H],rfl⟩
 refine Calls.mono (own_x X Y S W H e.it ⟨w.heap.size,fun _ => False⟩ w _ _ w trivial hg hrm) ?_
 rintro e' w' ⟨v,m',σ',u,rfl,rfl,_,h4,h5⟩
 simp only [RV] at h4
 subst h4
 exact ⟨rfl,h5.bel.to⟩
end Go.Proofs.Ytppklhfiajjhmaa.Ti
end
