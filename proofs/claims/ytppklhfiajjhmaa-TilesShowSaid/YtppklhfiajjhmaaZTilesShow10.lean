/- What is proved: texts of the law TilesShow, joined by program. Conditions: none but those in each statement. -/
import Derived.Test.YtppklhfiajjhmaaProg
import Derived.Test.YtppklhfiajjhmaaZTilesShow5
import Derived.Below
import Derived.Deep.Draws
import Derived.Deep.AppendLies
import Derived.Maps.AppendAt
import Derived.OwnWalk
import Derived.Laws.BytesArg
import Derived.Laws.MakeOwn
import Derived.Laws.OwnMore
import Derived.Deep.OwnRows
import Derived.Tactics
import Derived.Lib.ConvBytes
import Derived.Laws.Slices
import Derived.WalkKit
import Derived.KernelRfl
import Derived.RowKit3
import Derived.Deep.LoopGhost
import Derived.Deep.QuietTactic
import Derived.BigQuiet
import Derived.WideLaws
import Derived.Deep.DeepCutAuto
import Derived.Deep.CutBlock
import Derived.Deep.RegionHeld3
import Derived.Laws.Rows
import Derived.Lib.AppendStr
import Derived.ArgAppend
import Derived.Laws.IdiomCopy
import Derived.OrdersHeld
import Derived.Laws.BitsLemmas
import Derived.RowKit
import Derived.Test.YtppklhfiajjhmaaZTilesShow6
import Derived.Test.YtppklhfiajjhmaaZTilesShow7
import Derived.Test.YtppklhfiajjhmaaZTilesShow8
import Derived.Test.YtppklhfiajjhmaaZTilesShow9
section
namespace Go.Proofs.Ytppklhfiajjhmaa.PPT
open Go.RowKit Go.Proofs.YtppklhfiajjhmaaW.PrintWords Go.Proofs.YtppklhfiajjhmaaW.PrintLast Go.Proofs.YtppklhfiajjhmaaW.PrintMore
attribute [local go_sem] max2_int min2_int max_two min_two max_three min_three max_four min_four   -- for this text's walks alone
set_option linter.unusedVariables false
set_option linter.unusedSimpArgs false
theorem info2:(Try.prog.info? 2).map (fun i => (i.zero,i.size,i.bytes)) = some (some (.int .i64 0),1,8):=by kernel_rfl
theorem info37:(Try.prog.info? 37).map (fun i => (i.zero,i.size,i.bytes)) = some (some (.agg #[(.int .i64 0),(.int .i64 0),(.int .i64 0),(.int .i64 0)]),4,32):=by kernel_rfl
theorem info56:(Try.prog.info? 56).map (fun i => (i.zero,i.size,i.bytes)) = some (some (.agg #[(.int .i64 0),(.int .i64 0),(.int .i64 0)]),3,24):=by kernel_rfl
-- the values' own types
structure S37 where
 f0:Int
 f1:Int
 f2:Int
 f3:Int
def z37:S37:=⟨(0:Int),(0:Int),(0:Int),(0:Int)⟩
def k37:Kd S37:=Kd.iso (Kd.pair (Kd.int .i64) (Kd.pair (Kd.int .i64) (Kd.pair (Kd.int .i64) (Kd.int .i64)))) (fun x:S37 => (x.f0,x.f1,x.f2,x.f3))
theorem k37_open {w:World} {x:S37} {cs:List Value} (h:k37.K w x cs):cs = [.int .i64 x.f0,.int .i64 x.f1,.int .i64 x.f2,.int .i64 x.f3]:=by
 obtain ⟨_,_,rfl,rfl,⟨_,_,rfl,rfl,⟨_,_,rfl,rfl,rfl⟩⟩⟩:=h
 exact rfl
theorem k37_mk (w:World) (x:S37) :k37.K w x [.int .i64 x.f0,.int .i64 x.f1,.int .i64 x.f2,.int .i64 x.f3]:=⟨[.int .i64 x.f0],[.int .i64 x.f1,.int .i64 x.f2,.int .i64 x.f3],rfl,rfl,⟨[.int .i64 x.f1],[.int .i64 x.f2,.int .i64 x.f3],rfl,rfl,⟨[.int .i64 x.f2],[.int .i64 x.f3],rfl,rfl,rfl⟩⟩⟩
theorem k37_mkM (w:World) (base:Nat) (ok:Nat → Prop) (x:S37) :k37.M w base ok x [.int .i64 x.f0,.int .i64 x.f1,.int .i64 x.f2,.int .i64 x.f3]:=⟨[.int .i64 x.f0],[.int .i64 x.f1,.int .i64 x.f2,.int .i64 x.f3],rfl,rfl,⟨[.int .i64 x.f1],[.int .i64 x.f2,.int .i64 x.f3],rfl,rfl,⟨[.int .i64 x.f2],[.int .i64 x.f3],rfl,rfl,rfl⟩⟩⟩
def rd_T37 (xs:List S37) (i:Int):S37:=xs.getD i.toNat z37
theorem at_T37 {w:World} {A:Option Addr} {n:Nat} {xs:List S37} (h:Kd.C k37 w A n xs) (i:Int) (h0:0 ≤ i) (h1:i < n):∃ ad ,A = some ad ∧ w.cell? (ad.add (i.toNat * 4)) = some (.int .i64 (rd_T37 xs i).f0) ∧ w.cell? ⟨(ad.add (i.toNat * 4)).block,(ad.add (i.toNat * 4)).off + 1,none⟩ = some (.int .i64 (rd_T37 xs i).f1) ∧ w.cell? ⟨(ad.add (i.toNat * 4)).block,(ad.add (i.toNat * 4)).off + 2,none⟩ = some (.int .i64 (rd_T37 xs i).f2) ∧ w.cell? ⟨(ad.add (i.toNat * 4)).block,(ad.add (i.toNat * 4)).off + 3,none⟩ = some (.int .i64 (rd_T37 xs i).f3):=by
 obtain ⟨ad,c,e,_,hK,hc0⟩:=Kd.C_get h z37 i h0 h1
 have hc:∀ j u,c[j]? = some u → w.cell? (ad.add (i.toNat * 4 + j)) = some u:=hc0
 obtain rfl:=k37_open hK
 exact ⟨ad,e,hc 0 _ rfl,by rw [← add_field _ _ 1 (by omega)]; exact hc 1 _ rfl,by rw [← add_field _ _ 2 (by omega)]; exact hc 2 _ rfl,by rw [← add_field _ _ 3 (by omega)]; exact hc 3 _ rfl⟩
structure S39 where
 f0:Int
 f1:Int
 f2:S37
 f3:S37
 f4:S37
 f5:Int
def z39:S39:=⟨(0:Int),(0:Int),z37,z37,z37,(0:Int)⟩
def k39:Kd S39:=Kd.iso (Kd.pair (Kd.int .i64) (Kd.pair (Kd.int .i64) (Kd.pair k37 (Kd.pair k37 (Kd.pair k37 (Kd.int .i64)))))) (fun x:S39 => (x.f0,x.f1,x.f2,x.f3,x.f4,x.f5))
theorem k39_open {w:World} {x:S39} {cs:List Value} (h:k39.K w x cs):cs = [.int .i64 x.f0,.int .i64 x.f1,.int .i64 x.f2.f0,.int .i64 x.f2.f1,.int .i64 x.f2.f2,.int .i64 x.f2.f3,.int .i64 x.f3.f0,.int .i64 x.f3.f1,.int .i64 x.f3.f2,.int .i64 x.f3.f3,.int .i64 x.f4.f0,.int .i64 x.f4.f1,.int .i64 x.f4.f2,.int .i64 x.f4.f3,.int .i64 x.f5]:=by
 obtain ⟨_,_,rfl,rfl,⟨_,_,rfl,rfl,⟨_,_,rfl,s2,⟨_,_,rfl,s6,⟨_,_,rfl,s10,rfl⟩⟩⟩⟩⟩:=h
 obtain rfl:=k37_open s2
 obtain rfl:=k37_open s6
 obtain rfl:=k37_open s10
 exact rfl
def rd_T39 (xs:List S39) (i:Int):S39:=xs.getD i.toNat z39
theorem at_T39 {w:World} {A:Option Addr} {n:Nat} {xs:List S39} (h:Kd.C k39 w A n xs) (i:Int) (h0:0 ≤ i) (h1:i < n):∃ ad ,A = some ad ∧ w.cell? (ad.add (i.toNat * 15)) = some (.int .i64 (rd_T39 xs i).f0) ∧ w.cell? ⟨(ad.add (i.toNat * 15)).block,(ad.add (i.toNat * 15)).off + 1,none⟩ = some (.int .i64 (rd_T39 xs i).f1) ∧ w.cell? ⟨(ad.add (i.toNat * 15)).block,(ad.add (i.toNat * 15)).off + 2,none⟩ = some (.int .i64 (rd_T39 xs i).f2.f0) ∧ w.cell? ⟨(ad.add (i.toNat * 15)).block,(ad.add (i.toNat * 15)).off + 3,none⟩ = some (.int .i64 (rd_T39 xs i).f2.f1) ∧ w.cell? ⟨(ad.add (i.toNat * 15)).block,(ad.add (i.toNat * 15)).off + 4,none⟩ = some (.int .i64 (rd_T39 xs i).f2.f2) ∧ w.cell? ⟨(ad.add (i.toNat * 15)).block,(ad.add (i.toNat * 15)).off + 5,none⟩ = some (.int .i64 (rd_T39 xs i).f2.f3) ∧ w.cell? ⟨(ad.add (i.toNat * 15)).block,(ad.add (i.toNat * 15)).off + 6,none⟩ = some (.int .i64 (rd_T39 xs i).f3.f0) ∧ w.cell? ⟨(ad.add (i.toNat * 15)).block,(ad.add (i.toNat * 15)).off + 7,none⟩ = some (.int .i64 (rd_T39 xs i).f3.f1) ∧ w.cell? ⟨(ad.add (i.toNat * 15)).block,(ad.add (i.toNat * 15)).off + 8,none⟩ = some (.int .i64 (rd_T39 xs i).f3.f2) ∧ w.cell? ⟨(ad.add (i.toNat * 15)).block,(ad.add (i.toNat * 15)).off + 9,none⟩ = some (.int .i64 (rd_T39 xs i).f3.f3) ∧ w.cell? ⟨(ad.add (i.toNat * 15)).block,(ad.add (i.toNat * 15)).off + 10,none⟩ = some (.int .i64 (rd_T39 xs i).f4.f0) ∧ w.cell? ⟨(ad.add (i.toNat * 15)).block,(ad.add (i.toNat * 15)).off + 11,none⟩ = some (.int .i64 (rd_T39 xs i).f4.f1) ∧ w.cell? ⟨(ad.add (i.toNat * 15)).block,(ad.add (i.toNat * 15)).off + 12,none⟩ = some (.int .i64 (rd_T39 xs i).f4.f2) ∧ w.cell? ⟨(ad.add (i.toNat * 15)).block,(ad.add (i.toNat * 15)).off + 13,none⟩ = some (.int .i64 (rd_T39 xs i).f4.f3) ∧ w.cell? ⟨(ad.add (i.toNat * 15)).block,(ad.add (i.toNat * 15)).off + 14,none⟩ = some (.int .i64 (rd_T39 xs i).f5):=by
 obtain ⟨ad,c,e,_,hK,hc0⟩:=Kd.C_get h z39 i h0 h1
 have hc:∀ j u,c[j]? = some u → w.cell? (ad.add (i.toNat * 15 + j)) = some u:=hc0
 obtain rfl:=k39_open hK
 exact ⟨ad,e,hc 0 _ rfl,by rw [← add_field _ _ 1 (by omega)]; exact hc 1 _ rfl,by rw [← add_field _ _ 2 (by omega)]; exact hc 2 _ rfl,by rw [← add_field _ _ 3 (by omega)]; exact hc 3 _ rfl,by rw [← add_field _ _ 4 (by omega)]; exact hc 4 _ rfl,by rw [← add_field _ _ 5 (by omega)]; exact hc 5 _ rfl,by rw [← add_field _ _ 6 (by omega)]; exact hc 6 _ rfl,by rw [← add_field _ _ 7 (by omega)]; exact hc 7 _ rfl,by rw [← add_field _ _ 8 (by omega)]; exact hc 8 _ rfl,by rw [← add_field _ _ 9 (by omega)]; exact hc 9 _ rfl,by rw [← add_field _ _ 10 (by omega)]; exact hc 10 _ rfl,by rw [← add_field _ _ 11 (by omega)]; exact hc 11 _ rfl,by rw [← add_field _ _ 12 (by omega)]; exact hc 12 _ rfl,by rw [← add_field _ _ 13 (by omega)]; exact hc 13 _ rfl,by rw [← add_field _ _ 14 (by omega)]; exact hc 14 _ rfl⟩
structure S56 where
 f0:Int
 f1:Int
 f2:Int
def z56:S56:=⟨(0:Int),(0:Int),(0:Int)⟩
def k56:Kd S56:=Kd.iso (Kd.pair (Kd.int .i64) (Kd.pair (Kd.int .i64) (Kd.int .i64))) (fun x:S56 => (x.f0,x.f1,x.f2))
theorem k56_open {w:World} {x:S56} {cs:List Value} (h:k56.K w x cs):cs = [.int .i64 x.f0,.int .i64 x.f1,.int .i64 x.f2]:=by
 obtain ⟨_,_,rfl,rfl,⟨_,_,rfl,rfl,rfl⟩⟩:=h
 exact rfl
theorem k56_openM {w:World} {base:Nat} {ok:Nat → Prop} {x:S56} {cs:List Value} (h:k56.M w base ok x cs):cs = [.int .i64 x.f0,.int .i64 x.f1,.int .i64 x.f2]:=by
 obtain ⟨_,_,rfl,rfl,⟨_,_,rfl,rfl,rfl⟩⟩:=h
 exact rfl
theorem k56_mkM (w:World) (base:Nat) (ok:Nat → Prop) (x:S56) :k56.M w base ok x [.int .i64 x.f0,.int .i64 x.f1,.int .i64 x.f2]:=⟨[.int .i64 x.f0],[.int .i64 x.f1,.int .i64 x.f2],rfl,rfl,⟨[.int .i64 x.f1],[.int .i64 x.f2],rfl,rfl,rfl⟩⟩
def rd_T56 (xs:List S56) (i:Int):S56:=xs.getD i.toNat z56
theorem at_T56 {w:World} {A:Option Addr} {n:Nat} {xs:List S56} (h:Kd.C k56 w A n xs) (i:Int) (h0:0 ≤ i) (h1:i < n):∃ ad ,A = some ad ∧ w.cell? (ad.add (i.toNat * 3)) = some (.int .i64 (rd_T56 xs i).f0) ∧ w.cell? ⟨(ad.add (i.toNat * 3)).block,(ad.add (i.toNat * 3)).off + 1,none⟩ = some (.int .i64 (rd_T56 xs i).f1) ∧ w.cell? ⟨(ad.add (i.toNat * 3)).block,(ad.add (i.toNat * 3)).off + 2,none⟩ = some (.int .i64 (rd_T56 xs i).f2):=by
 obtain ⟨ad,c,e,_,hK,hc0⟩:=Kd.C_get h z56 i h0 h1
 have hc:∀ j u,c[j]? = some u → w.cell? (ad.add (i.toNat * 3 + j)) = some u:=hc0
 obtain rfl:=k56_open hK
 exact ⟨ad,e,hc 0 _ rfl,by rw [← add_field _ _ 1 (by omega)]; exact hc 1 _ rfl,by rw [← add_field _ _ 2 (by omega)]; exact hc 2 _ rfl⟩
end Go.Proofs.Ytppklhfiajjhmaa.PPT
end
section
namespace Go.Proofs.Ytppklhfiajjhmaa.PPT
open Go.RowKit Go.Proofs.YtppklhfiajjhmaaW.PrintWords Go.Proofs.YtppklhfiajjhmaaW.PrintLast Go.Proofs.YtppklhfiajjhmaaW.PrintMore
attribute [local go_sem] max2_int min2_int max_two min_two max_three min_three max_four min_four   -- for this text's walks alone
set_option linter.unusedVariables false
set_option linter.unusedSimpArgs false
theorem eqA37 (d:Nat) (w:World) (x0 y0:Int) (x1 y1:Int) (x2 y2:Int) (x3 y3:Int) :
  (Op.equalIn (d + 2) 37 (.agg #[.int .i64 x0,.int .i64 x1,.int .i64 x2,.int .i64 x3]) (.agg #[.int .i64 y0,.int .i64 y1,.int .i64 y2,.int .i64 y3])).run Try.prog w = .ok (x0 == y0 && (x1 == y1 && (x2 == y2 && (x3 == y3)))) w:=by
 refine eqA_of Try.underlying37 (by kernel_rfl) ?_
 refine eqf_cons (by rfl) (by go_simp; rfl) (by go_simp; rfl) (by go_simp) ?_
 refine eqf_cons (by rfl) (by go_simp; rfl) (by go_simp; rfl) (by go_simp) ?_
 refine eqf_cons (by rfl) (by go_simp; rfl) (by go_simp; rfl) (by go_simp) ?_
 exact eqf_last (by rfl) (by go_simp; rfl) (by go_simp; rfl) (by go_simp)
end Go.Proofs.Ytppklhfiajjhmaa.PPT
end
