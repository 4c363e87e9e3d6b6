/- What is proved: texts of the law TilesShow, joined by program. Conditions: none but those in each statement. -/
import Derived.Test.YtppklhfiajjhmaaZTilesShow4
import Derived.Sort.OwnSortedInts
section
namespace Go.Proofs.Ytppklhfiajjhmaa.EdgeWords
open Go Go.RowKit Go.Sort Go.Proofs
theorem sort_own {w:World} {base:Nat} {v:Value} {zs:List Int} (ho:w.ownsRow base 2 1 v zs.length (zs.map (Value.int .i64))) (hz:zs ≠ []) (hsz:zs.length < 4611686018427387904) :
    Calls Try.prog 62 #[v] w fun e w' => e = .returned (.tuple #[]) ∧ w'.ownsRow base 2 1 v zs.length ((zs.mergeSort fun x y => decide (x ≤ y)).map (Value.int .i64)) ∧ w.grownBy w' v.ownBlock:=by
  obtain ⟨_,h⟩:=ho
  rcases h with ⟨_,h0⟩ | ⟨g,cap,cur,rfl,hg,hb,hn,hcap,hcs,ht⟩
  · exact absurd (List.length_eq_zero_iff.1 h0) hz
  have hlt:g < w.heap.size:=(Array.getElem?_eq_some_iff.1 hb).1
  refine (Try.slices_Sort_int g 0 cap zs w (holds_of_blockI hb (by simpa using ht)) hlt hsz).mono ?_
  rintro e w' ⟨rfl,n,os,rfl⟩
  exact ⟨rfl,ownsRow_sortedI (by simp) hg hb hn hcap hcs,grownBy_sortedI _⟩
theorem sort_ne {zs:List Int} (h:zs ≠ []):(zs.mergeSort fun x y => decide (x ≤ y)) ≠ []:=by
  intro e
  have h1:=List.length_mergeSort (le:=fun x y:Int => decide (x ≤ y)) zs
  rw [e] at h1
  exact h (List.length_eq_zero_iff.1 (by simpa using h1.symm))
theorem compact_le (zs:List Int):(Lib.compact zs).length ≤ zs.length:=by
  unfold Lib.compact Lib.compactUpTo
  rw [List.length_map]
  exact Nat.le_trans (List.length_filter_le _ _) (by simp)
theorem compact_own {w:World} {base:Nat} {v:Value} {zs:List Int} (ho:w.ownsRow base 2 1 v zs.length (zs.map (Value.int .i64))) (hz:zs ≠ []) (hsz:zs.length < 4611686018427387904) :
    Calls Try.prog 63 #[v] w fun e w' => ∃ v',e = .returned v' ∧ v'.ownBlock = v.ownBlock ∧ w'.ownsRow base 2 1 v' (Lib.compact zs).length ((Lib.compact zs).map (Value.int .i64)) ∧ w.grownBy w' v.ownBlock:=by
  obtain ⟨_,h⟩:=ho
  rcases h with ⟨_,h0⟩ | ⟨g,cap,cur,rfl,hg,hb,hn,hcap,hcs,ht⟩
  · exact absurd (List.length_eq_zero_iff.1 h0) hz
  have hlt:g < w.heap.size:=(Array.getElem?_eq_some_iff.1 hb).1
  refine (Try.slices_Compact_int g 0 cap zs w (holds_of_blockI hb (by simpa using ht)) (by omega) hn).mono ?_
  rintro e w' ⟨rfl,q,rfl⟩
  have hc:=compact_le zs
  refine ⟨_,rfl,rfl,?_,?_⟩
  · have h2:=ownsRow_sortedI (w:=w) (base:=base) (g:=g) (cap:=cap) (n:=q) (e:=2) (os:=#[]) (cur:=cur) (ss:=Lib.compact zs ++ List.replicate (zs.length - (Lib.compact zs).length) 0) (ts:=Lib.compact zs ++ List.replicate (zs.length - (Lib.compact zs).length) 0) rfl hg hb (by simp; omega) hcap hcs
    obtain ⟨_,h3⟩:=h2
    rcases h3 with ⟨h4,_⟩ | ⟨g',cap',cur',h4,hg',hb',hn',hcap',hcs',ht'⟩
    · cases h4
    · cases h4
      rw [grow_empty] at hb'
      refine ⟨by simp,.inr ⟨g,cap,cur',rfl,hg,hb',by omega,hcap,hcs',?_⟩⟩
      have h5:=congrArg (List.take ((Lib.compact zs).length * 1)) ht'
      rw [List.take_take,List.map_append,List.take_append_of_le_length (by simp),Nat.min_eq_left (by simp)] at h5
      rw [h5]
      exact List.take_of_length_le (by simp)
  · have h2:=grownBy_sortedI (w:=w) (g:=g) (n:=q) (os:=#[]) ((Lib.compact zs ++ List.replicate (zs.length - (Lib.compact zs).length) 0).toArray)
    rw [grow_empty] at h2
    exact h2
end Go.Proofs.Ytppklhfiajjhmaa.EdgeWords
end
