/- What is proved: texts of the law TilesShow, joined by program. Conditions: none but those in each statement. -/
import Derived.Test.YtppklhfiajjhmaaZTilesShow18
import Derived.Deep.Slices
import Derived.OpenShut
import Derived.ProofKit
import Derived.SizedLaws
section
namespace Go.Proofs.Ytppklhfiajjhmaa.Reads
set_option linter.unusedVariables false
set_option linter.unusedSimpArgs false
open Go.RowKit Go.ChangeShapes Go.WideShapes Go.Deep
def I64 (n:Int):Prop:=-9223372036854775808 ≤ n ∧ n ≤ 9223372036854775807
def isI64 (v:Value):Prop:=∃ n,v = .int .i64 n ∧ I64 n
def Fits:List (Value → Prop) → List Value → Prop
  | [],[] => True
  | p :: ps,c :: cs => p c ∧ Fits ps cs
  | _,_ => False
theorem fits_cons {p:Value → Prop} {ps:List (Value → Prop)} {cs:List Value} (h:Fits (p :: ps) cs):∃ c r,cs = c :: r ∧ p c ∧ Fits ps r:=by
  cases cs with
  | nil => exact h.elim
  | cons c r => exact ⟨c,r,rfl,h.1,h.2⟩
theorem fits_nil {cs:List Value} (h:Fits [] cs):cs = []:=by
  cases cs with
  | nil => rfl
  | cons c r => exact h.elim
theorem fits_append:∀ (a b:List (Value → Prop)) (cs ds:List Value),Fits a cs → Fits b ds → Fits (a ++ b) (cs ++ ds)
  | [],b,[],ds,_,h => h
  | p :: ps,b,c :: cs,ds,h,k => ⟨h.1,fits_append ps b cs ds h.2 k⟩
  | [],_,_ :: _,_,h,_ => h.elim
  | _ :: _,_,[],_,h,_ => h.elim
def Opens (P:Program) (t:TypeId) (ps:List (Value → Prop)):Prop :=
  P.cellsOf t = ps.length ∧ ∀ (H:Type) (enc:TypeId × Value → H) (w:World) (base:Nat) (spare:Nat → Bool) (held:Bool) (fuel:Nat) (cs:List Value) (x:DataW H × List MemPlace),DataW.trod enc P w base spare held fuel t cs = some x → Fits ps cs
theorem opens_i64 {P:Program} {t:TypeId} (ht:P.underlying t = some (.int .i64)) (hc:P.cellsOf t = 1):Opens P t [isI64]:=by
  refine ⟨hc,fun H enc w base spare held fuel cs x h => ?_⟩
  obtain ⟨n,rfl,_,h3⟩:=DataW.trod_int ht h
  exact ⟨⟨n,rfl,bounds_i64 h3⟩,trivial⟩
def FO (P:Program) (fs:Array Field) (tot j off:Nat) (ps:List (Value → Prop)):Prop :=
  ∀ (H:Type) (enc:TypeId × Value → H) (w:World) (base:Nat) (spare:Nat → Bool) (held:Bool) (n:Nat) (cs:List Value),cs.length = tot →
    (∀ (i:Nat) (f:Field),j ≤ i → fs[i]? = some f → ∃ y,DataW.trod enc P w base spare held n f.type ((cs.drop f.offset).take (P.cellsOf f.type)) = some y) → Fits ps (cs.drop off)
theorem fo_last {P:Program} {fs:Array Field} {tot j off:Nat} {ps:List (Value → Prop)} {f:Field} (hf:fs[j]? = some f) (ho:f.offset = off) (ht:off + ps.length = tot) (he:Opens P f.type ps):FO P fs tot j off ps:=by
  intro H enc w base spare held n cs hl h
  obtain ⟨y,hy⟩:=h j f (Nat.le_refl _) hf
  have hz:=he.2 H enc w base spare held n _ _ hy
  rw [ho,he.1,List.take_of_length_le (by rw [List.length_drop]; omega)] at hz
  exact hz
theorem fo_cons {P:Program} {fs:Array Field} {tot j off:Nat} {ps a b:List (Value → Prop)} {f:Field} (hf:fs[j]? = some f) (ho:f.offset = off) (he:Opens P f.type a)
    (hr:FO P fs tot (j + 1) (off + a.length) b) (e:ps = a ++ b):FO P fs tot j off ps:=by
  subst e
  intro H enc w base spare held n cs hl h
  obtain ⟨y,hy⟩:=h j f (Nat.le_refl _) hf
  have hz:=he.2 H enc w base spare held n _ _ hy
  have hz2:=hr H enc w base spare held n cs hl (fun i g hi hg => h i g (by omega) hg)
  rw [ho,he.1] at hz
  rw [← List.drop_drop] at hz2
  have:=fits_append _ _ _ _ hz hz2
  rwa [List.take_append_drop] at this
theorem opens_struct {P:Program} {t:TypeId} {fs:Array Field} {ps:List (Value → Prop)} (ht:P.underlying t = some (.struct fs)) (hc:P.cellsOf t = ps.length) (he:FO P fs ps.length 0 0 ps):Opens P t ps:=by
  refine ⟨hc,fun H enc w base spare held fuel cs x h => ?_⟩
  obtain ⟨xs,n,_,_,hl,hxl,hi⟩:=DataW.trod_struct ht h
  exact he H enc w base spare held n cs (hl.trans hc) (fun i f _ hf => by
    have h1:=hi i f hf
    have:i < fs.size:=(Array.getElem?_eq_some_iff.1 hf).1
    rw [List.getElem?_eq_getElem (by omega)] at h1
    exact ⟨_,h1⟩)
section
variable {H:Type} {enc:TypeId × Value → H} {P:Program} {w:World} {base:Nat} {spare:Nat → Bool} {held:Bool} {t:TypeId} {v:Value} {dd:DataW H} {ps:List MemPlace} {r:Reach} {b0:Nat}
theorem list_of {α:Type} [Inhabited α] {p:Nat → α → Prop} (n:Nat) (h:∀ i,i < n → ∃ x,p i x):∃ xs:List α,xs.length = n ∧ ∀ i x,xs[i]? = some x → p i x:=by
  obtain ⟨f,hf⟩:=choose_lt (n:=n) (p:=p) h
  refine ⟨(List.range n).map f,by simp,fun i x hx => ?_⟩
  rw [List.getElem?_map] at hx
  by_cases hi:i < n
  · rw [List.getElem?_range hi] at hx
    simp at hx
    exact hx ▸ hf i hi
  · rw [List.getElem?_eq_none (by simp; omega)] at hx
    simp at hx
def Rows (w:World) (A:Option Addr) (sz:Nat) (qs:List (Value → Prop)) (xs:List (List Value)):Prop :=
  (∀ x ∈ xs,Fits qs x) ∧ ∀ (i:Nat) (x:List Value),xs[i]? = some x → ∃ a,A = some a ∧ ∀ (j:Nat) (u:Value),x[j]? = some u → w.cell? (a.add (i * sz + j)) = some u
theorem arg_struct {fs:Array Field} {qs:List (Value → Prop)} (ht:P.underlying t = some (.struct fs)) (he:Opens P t qs) (hv:Value.okWide P w r b0 t v) (h:DataW.Trod enc P w base spare held t v dd ps) :
    ∃ (cs:List Value),v = .agg cs.toArray ∧ Fits qs cs:=by
  obtain ⟨cs,rfl,_⟩:=okWide_struct ht hv
  obtain ⟨fuel,hf⟩:=h
  exact ⟨cs.toList,by simp,by simpa [Value.cells] using he.2 H enc w base spare held fuel _ _ hf⟩
end
end Go.Proofs.Ytppklhfiajjhmaa.Reads
end
