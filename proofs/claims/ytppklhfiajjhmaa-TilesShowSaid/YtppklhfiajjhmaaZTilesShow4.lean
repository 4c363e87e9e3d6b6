/- What is proved: texts of the law TilesShow, joined by program. Conditions: none but those in each statement. -/
import Derived.Shelf.Small.Bits
import Derived.Shelf.Strconv.Itoa0
import Derived.Ground.SlgnProg
import Derived.Shelf.SlicesG.CompactI
import Derived.Shelf.SlicesE.Clone
import Derived.Ground.SlgmProg
import Derived.Shelf.SortM.Plain
import Derived.Test.YtppklhfiajjhmaaProg
section
namespace Go.Proofs
open Go.Shelf
def Try.laysSlN43_f63_ren:Go.Shelf.Ren:=⟨fun | 43 => 63 | n => n,fun | 22 => 47 | 23 => 2 | 3 => 3 | 4 => 4 | 0 => 0 | n => n,fun | n => n⟩
theorem Try.laysSlN43_f63:Go.Proofs.SlLaysN.n43 Try.prog Try.laysSlN43_f63_ren:={
 mixed:=by kernel_rfl
 f43:=⟨Try.f63.name,by decide,Try.func63.trans (congrArg some (by kernel_rfl))⟩
 t0:=Try.underlying0
 a0:=Try.isAgg0
 z0:=Try.sizeOf0
 v0:=Try.zeroValue0
 t3:=Try.underlying3
 a3:=Try.isAgg3
 z3:=Try.sizeOf3
 v3:=Try.zeroValue3
 t4:=Try.underlying4
 a4:=Try.isAgg4
 z4:=Try.sizeOf4
 v4:=Try.zeroValue4
 t22:=Try.underlying47
 a22:=Try.isAgg47
 z22:=Try.sizeOf47
 v22:=Try.zeroValue47
 t23:=Try.underlying2
 a23:=Try.isAgg2
 z23:=Try.sizeOf2
 v23:=Try.zeroValue2
 i23:=by kernel_rfl }
open Go.RowKit Go.Lib Go.Sort in
theorem Try.slices_Compact_int (blk off cap:Nat) (zs:List Int) (w:World) (hH:Holds (Value.int .i64) w blk off zs.toArray) (hsz:zs.length ≤ 9223372036854775807) (hcap:zs.length ≤ cap) :
  Calls Try.prog 63 #[.slice (some ⟨blk,off,none⟩) zs.length cap] w fun e w' => e = .returned (.slice (some ⟨blk,off,none⟩) (Lib.compact zs).length cap) ∧ ∃ q,w' = putRow (Value.int .i64) (Sort.ahead w q) blk off (Lib.compact zs ++ List.replicate (zs.length - (Lib.compact zs).length) 0).toArray:=AnyG.slices_Compact_int Try.laysSlN43_f63 blk off cap zs w hH hsz hcap
def Try.laysSlM5_f62_ren:Go.Shelf.Ren:=⟨fun | 5 => 62 | 8 => 70 | 7 => 69 | 19 => 82 | 20 => 83 | 10 => 73 | 11 => 74 | 12 => 75 | 13 => 76 | 14 => 77 | 15 => 78 | 16 => 79 | 17 => 80 | 18 => 81 | 30 => 84 | 31 => 85 | 32 => 86 | 33 => 87 | 34 => 88 | 35 => 89 | 40 => 90 | n => n,fun | 23 => 47 | 25 => 2 | 3 => 3 | 32 => 103 | 22 => 47 | 0 => 0 | 44 => 113 | 46 => 115 | 4 => 4 | 36 => 107 | 35 => 106 | 41 => 87 | 5 => 5 | 9 => 9 | 53 => 116 | 57 => 120 | 63 => 123 | 64 => 24 | n => n,fun | n => n⟩
theorem Try.laysSlM5_f62:Go.Proofs.SlLaysM.n5 Try.prog Try.laysSlM5_f62_ren:={
 mixed:=by kernel_rfl
 f5:=⟨Try.f62.name,by decide,Try.func62.trans (congrArg some (by kernel_rfl))⟩
 f7:=⟨Try.f69.name,by decide,Try.func69.trans (congrArg some (by kernel_rfl))⟩
 f8:=Try.func70.trans (congrArg some (by kernel_rfl))
 f10:=⟨Try.f73.name,by decide,Try.func73.trans (congrArg some (by kernel_rfl))⟩
 f11:=⟨Try.f74.name,by decide,Try.func74.trans (congrArg some (by kernel_rfl))⟩
 f12:=⟨Try.f75.name,by decide,Try.func75.trans (congrArg some (by kernel_rfl))⟩
 f13:=⟨Try.f76.name,by decide,Try.func76.trans (congrArg some (by kernel_rfl))⟩
 f14:=⟨Try.f77.name,by decide,Try.func77.trans (congrArg some (by kernel_rfl))⟩
 f15:=⟨Try.f78.name,by decide,Try.func78.trans (congrArg some (by kernel_rfl))⟩
 f16:=⟨Try.f79.name,by decide,Try.func79.trans (congrArg some (by kernel_rfl))⟩
 f17:=⟨Try.f80.name,by decide,Try.func80.trans (congrArg some (by kernel_rfl))⟩
 f18:=⟨Try.f81.name,by decide,Try.func81.trans (congrArg some (by kernel_rfl))⟩
 f19:=Try.func82.trans (congrArg some (by kernel_rfl))
 f20:=Try.func83.trans (congrArg some (by kernel_rfl))
 f30:=⟨Try.f84.name,by decide,Try.func84.trans (congrArg some (by kernel_rfl))⟩
 f31:=Try.func85.trans (congrArg some (by kernel_rfl))
 f32:=Try.func86.trans (congrArg some (by kernel_rfl))
 f33:=⟨Try.f87.name,by decide,Try.func87.trans (congrArg some (by kernel_rfl))⟩
 f34:=⟨Try.f88.name,by decide,Try.func88.trans (congrArg some (by kernel_rfl))⟩
 f35:=⟨Try.f89.name,by decide,Try.func89.trans (congrArg some (by kernel_rfl))⟩
 f40:=⟨Try.f90.name,by decide,Try.func90.trans (congrArg some (by kernel_rfl))⟩
 t0:=Try.underlying0
 a0:=Try.isAgg0
 z0:=Try.sizeOf0
 v0:=Try.zeroValue0
 t3:=Try.underlying3
 a3:=Try.isAgg3
 z3:=Try.sizeOf3
 v3:=Try.zeroValue3
 t4:=Try.underlying4
 a4:=Try.isAgg4
 z4:=Try.sizeOf4
 v4:=Try.zeroValue4
 t5:=Try.underlying5
 a5:=Try.isAgg5
 z5:=Try.sizeOf5
 v5:=Try.zeroValue5
 t9:=Try.underlying9
 a9:=Try.isAgg9
 z9:=Try.sizeOf9
 v9:=Try.zeroValue9
 t22:=Try.underlying47
 a22:=Try.isAgg47
 z22:=Try.sizeOf47
 v22:=Try.zeroValue47
 t23:=Try.underlying47
 a23:=Try.isAgg47
 z23:=Try.sizeOf47
 v23:=Try.zeroValue47
 t25:=Try.underlying2
 a25:=Try.isAgg2
 z25:=Try.sizeOf2
 v25:=Try.zeroValue2
 t32:=Try.underlying103
 a32:=Try.isAgg103
 z32:=Try.sizeOf103
 v32:=Try.zeroValue103
 t35:=Try.underlying106
 a35:=Try.isAgg106
 z35:=Try.sizeOf106
 v35:=Try.zeroValue106
 t36:=Try.underlying107
 a36:=Try.isAgg107
 z36:=Try.sizeOf107
 v36:=Try.zeroValue107
 t41:=Try.underlying87
 a41:=Try.isAgg87
 z41:=Try.sizeOf87
 v41:=Try.zeroValue87
 t44:=Try.underlying113
 a44:=Try.isAgg113
 z44:=Try.sizeOf113
 v44:=Try.zeroValue113
 t46:=Try.underlying115
 a46:=Try.isAgg115
 z46:=Try.sizeOf115
 v46:=Try.zeroValue115
 t53:=Try.underlying116
 a53:=Try.isAgg116
 z53:=Try.sizeOf116
 v53:=Try.zeroValue116
 t57:=Try.underlying120
 a57:=Try.isAgg120
 z57:=Try.sizeOf120
 v57:=Try.zeroValue120
 t63:=Try.underlying123
 a63:=Try.isAgg123
 z63:=Try.sizeOf123
 v63:=Try.zeroValue123
 t64:=Try.underlying24
 a64:=Try.isAgg24
 z64:=Try.sizeOf24
 v64:=Try.zeroValue24 }
open Go.Sort Go.RowKit in
theorem Try.slices_Sort_int (blk off cap:Nat) (zs:List Int) (w:World) (hH:Holds (Value.int .i64) w blk off zs.toArray) (hblk:blk < w.heap.size) (hsz:zs.length < 4611686018427387904) :
  Calls Try.prog 62 #[.slice (some ⟨blk,off,none⟩) zs.length cap] w fun e w' =>
   e = .returned (.tuple #[]) ∧ ∃ n os,w' = grow (putRow (Value.int .i64) (Sort.ahead w n) blk off (zs.mergeSort fun x y => decide (x ≤ y)).toArray) os:=AnyM.slices_Sort_int Try.laysSlM5_f62 blk off cap zs w hH hblk hsz
end Go.Proofs
end
