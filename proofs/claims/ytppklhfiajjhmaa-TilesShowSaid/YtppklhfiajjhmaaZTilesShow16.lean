/- What is proved: texts of the law TilesShow, joined by program. Conditions: none but those in each statement. -/
import Derived.Test.YtppklhfiajjhmaaZTilesShow13
import Derived.Test.YtppklhfiajjhmaaZTilesShow15
section
namespace Go.Proofs.Ytppklhfiajjhmaa.Pure
open Go.RowKit Go.Proofs.Ytppklhfiajjhmaa.PPT Go.Proofs.YtppklhfiajjhmaaW.PrintWords Go.Proofs.YtppklhfiajjhmaaW.PrintLast
set_option linter.unusedSimpArgs false
set_option linter.unusedVariables false
open Go.Proofs.Ytppklhfiajjhmaa.Opens
def emp (r:S37):Prop:=r.f0 ≥ r.f2 ∨ r.f1 ≥ r.f3
instance (r:S37):Decidable (emp r):=by unfold emp; exact inferInstance
def has (r:S37) (x y:Int):Prop:=r.f0 ≤ x ∧ x < r.f2 ∧ r.f1 ≤ y ∧ y < r.f3
instance (r:S37) (x y:Int):Decidable (has r x y):=by unfold has; exact inferInstance
theorem holds_eq (r:S37) (x y:Int):rect_Holds.f r.f0 r.f1 r.f2 r.f3 x y = some (decide (has r x y)):=by
 unfold rect_Holds.f has
 by_cases h1:x ≥ r.f0
 ·by_cases h2:x < r.f2
  ·by_cases h3:y ≥ r.f1
   ·rw [if_pos h1,if_pos h2,if_pos h3]; simp [h1,h2,h3]
   ·rw [if_pos h1,if_pos h2,if_neg h3]; simp [h3]
  ·rw [if_pos h1,if_neg h2]; simp [h2]
 ·rw [if_neg h1]; simp [h1]
theorem rholds_eq (r:S37) (x y:Int):decoupageref02_Holds.f r.f0 r.f1 r.f2 r.f3 x y = some (decide (has r x y)):=by
 unfold decoupageref02_Holds.f has
 by_cases h1:r.f0 ≤ x
 ·by_cases h2:x < r.f2
  ·by_cases h3:r.f1 ≤ y
   ·rw [if_pos h1,if_pos h2,if_pos h3]; simp [h1,h2,h3]
   ·rw [if_pos h1,if_pos h2,if_neg h3]; simp [h3]
  ·rw [if_pos h1,if_neg h2]; simp [h2]
 ·rw [if_neg h1]; simp [h1]
theorem empty_eq (r:S37):rect_Empty.f r.f0 r.f1 r.f2 r.f3 = some (decide (emp r)):=by
 unfold rect_Empty.f emp
 by_cases h:r.f0 ≥ r.f2
 ·rw [if_pos h]; simp [h]
 ·rw [if_neg h]; simp [h]
def meet (a b:S37):S37 :=
 if emp ⟨mx a.f0 b.f0,mx a.f1 b.f1,mn a.f2 b.f2,mn a.f3 b.f3⟩ then ⟨0,0,0,0⟩ else ⟨mx a.f0 b.f0,mx a.f1 b.f1,mn a.f2 b.f2,mn a.f3 b.f3⟩
theorem meet_eq (a b:S37):rect_Meet.f a.f0 a.f1 a.f2 a.f3 b.f0 b.f1 b.f2 b.f3 = some ((meet a b).f0,(meet a b).f1,(meet a b).f2,(meet a b).f3):=by
 unfold rect_Meet.f meet
 have h:=empty_eq ⟨mx a.f0 b.f0,mx a.f1 b.f1,mn a.f2 b.f2,mn a.f3 b.f3⟩
 rw [h]
 simp only [Option.bind_some]
 by_cases h1:emp ⟨mx a.f0 b.f0,mx a.f1 b.f1,mn a.f2 b.f2,mn a.f3 b.f3⟩
 ·simp [h1]
 ·simp [h1]
theorem mx_or (a b:Int):mx a b = a ∧ b ≤ a ∨ mx a b = b ∧ a ≤ b:=by unfold mx; split <;> omega
theorem mn_or (a b:Int):mn a b = a ∧ a ≤ b ∨ mn a b = b ∧ b ≤ a:=by unfold mn; split <;> omega
theorem has_meet (a b:S37) (x y:Int):has (meet a b) x y ↔ has a x y ∧ has b x y:=by
 unfold meet
 have e0:=mx_or a.f0 b.f0; have e1:=mx_or a.f1 b.f1; have e2:=mn_or a.f2 b.f2; have e3:=mn_or a.f3 b.f3
 split
 ·rename_i h; unfold emp at h; unfold has; simp only at h ⊢; omega
 ·rename_i h; unfold emp at h; unfold has; simp only at h ⊢; omega
theorem w64 {n:Int} (h1:-9223372036854775808 ≤ n) (h2:n ≤ 9223372036854775807):wrap64 n = n:=by unfold wrap64; omega
theorem mid_lt {α:Type} (l1:List α) (x:α) (l2:List α):((l1.length:Int) < ((l1 ++ x :: l2).length:Int)):=by simp; omega
theorem mid_ge {α:Type} (l1:List α):¬ ((l1.length:Int) < ((l1 ++ []).length:Int)):=by simp
theorem mid_next {α:Type} (l1:List α) (x:α) (l2:List α) (h:(l1 ++ x :: l2).length ≤ 4611686018427387904):wrap64 ((l1.length:Int) + 1) = ((l1 ++ [x]).length:Int):=by
 simp at h ⊢
 rw [w64 (by omega) (by omega)]
theorem mid_app {α:Type} (l1:List α) (x:α) (l2:List α):l1 ++ x :: l2 = (l1 ++ [x]) ++ l2:=by simp
theorem rd_mid (l1:List S37) (x:S37) (l2:List S37):rd_T37 (l1 ++ x :: l2) (l1.length:Int) = x:=by
 unfold rd_T37
 simp
def ne (r:S37):Bool:=!decide (emp r)
theorem ne_eq (r:S37):ne r = decide (r.f0 < r.f2 ∧ r.f1 < r.f3):=by
 unfold ne
 by_cases h:emp r
 ·have h2:¬ (r.f0 < r.f2 ∧ r.f1 < r.f3):=by unfold emp at h; omega
  rw [decide_eq_true h,decide_eq_false h2]; rfl
 ·have h2:r.f0 < r.f2 ∧ r.f1 < r.f3:=by unfold emp at h; omega
  rw [decide_eq_false h,decide_eq_true h2]; rfl
def cm (a b:S37):S37:=if emp (meet a b) then ⟨a.f0,a.f3,a.f2,a.f3⟩ else meet a b
def pcs (a m:S37):List S37:=[⟨a.f0,a.f1,a.f2,m.f1⟩,⟨a.f0,m.f3,a.f2,a.f3⟩,⟨a.f0,m.f1,m.f0,m.f3⟩,⟨m.f2,m.f1,a.f2,m.f3⟩]
def cut (a b:S37):List S37:=(pcs a (cm a b)).filter ne
theorem cutl (l2:List S37):∀ (l1 acc:List S37) (k:Nat),l2.length < k → acc.length + l2.length < 4398046511104 → (l1 ++ l2).length ≤ 4611686018427387904 →
  rect_Cut.l0 k acc (l1 ++ l2) ((l1 ++ l2).length:Int) (l1.length:Int) = some (acc ++ l2.filter ne):=by
 induction l2 with
 | nil =>
  intro l1 acc k hk _ _
  obtain ⟨k,rfl⟩:∃ m,k = m + 1:=⟨k - 1,by omega⟩
  simp only [rect_Cut.l0]
  rw [if_neg (mid_ge _)]
  simp
 | cons x l2 ih =>
  intro l1 acc k hk ha hn
  obtain ⟨k,rfl⟩:∃ m,k = m + 1:=⟨k - 1,by omega⟩
  simp only [List.length_cons] at hk ha
  simp only [rect_Cut.l0]
  rw [if_pos (mid_lt _ _ _),if_pos (by omega),if_pos (mid_lt _ _ _),rd_mid,empty_eq,mid_next l1 x l2 hn]
  simp only [Option.bind_some]
  rw [mid_app] at hn ⊢
  by_cases he:emp x
  ·rw [if_pos (by simpa using he),ih (l1 ++ [x]) acc k (by omega) (by omega) hn]
   simp [ne,he]
  ·rw [if_neg (by simpa using he),if_pos (by omega),ih (l1 ++ [x]) (acc ++ [x]) k (by omega) (by simp; omega) hn]
   simp [ne,he]
theorem cut_eq (a b:S37) (k:Nat) (hk:6 ≤ k):rect_Cut.f k a.f0 a.f1 a.f2 a.f3 b.f0 b.f1 b.f2 b.f3 = some (cut a b):=by
 obtain ⟨k,rfl⟩:∃ m,k = m + 1:=⟨k - 1,by omega⟩
 have hj:∀ m:S37,rect_Cut.j0 (k + 1) a.f0 a.f1 a.f2 a.f3 m.f0 m.f1 m.f2 m.f3 = some ((pcs a m).filter ne):=fun m => by
  simp only [rect_Cut.j0,Option.bind_some]
  have:=cutl (pcs a m) [] [] k (by simp [pcs]; omega) (by simp [pcs]) (by simp [pcs])
  simpa [pcs] using this
 unfold rect_Cut.f
 rw [meet_eq]
 simp only [Option.bind_some]
 rw [empty_eq (meet a b)]
 simp only [Option.bind_some]
 unfold cut cm
 by_cases h:emp (meet a b)
 ·rw [if_pos (by simpa using h),if_pos h]
  exact hj ⟨a.f0,a.f3,a.f2,a.f3⟩
 ·rw [if_neg (by simpa using h),if_neg h]
  exact hj (meet a b)
def cnt (l:List S37) (x y:Int):Nat:=l.countP fun r => decide (has r x y)
theorem cnt_filter (l:List S37) (x y:Int):cnt (l.filter ne) x y = cnt l x y:=by
 unfold cnt
 rw [List.countP_filter]
 apply List.countP_congr
 intro r _
 have:has r x y → ¬ emp r:=by unfold has emp; omega
 simp only [Bool.and_eq_true,decide_eq_true_eq,ne,Bool.not_eq_true',decide_eq_false_iff_not]
 exact ⟨fun h => h.1,fun h => ⟨h,this h⟩⟩
theorem cm_cases (a b:S37):(cm a b = ⟨a.f0,a.f3,a.f2,a.f3⟩ ∧ ∀ x y,has a x y → ¬ has b x y) ∨
  (a.f0 ≤ (cm a b).f0 ∧ (cm a b).f0 < (cm a b).f2 ∧ (cm a b).f2 ≤ a.f2 ∧ a.f1 ≤ (cm a b).f1 ∧ (cm a b).f1 < (cm a b).f3 ∧ (cm a b).f3 ≤ a.f3 ∧ ∀ x y,has (cm a b) x y ↔ has a x y ∧ has b x y):=by
 unfold cm
 by_cases h:emp (meet a b)
 ·rw [if_pos h]
  left
  refine ⟨rfl,fun x y h1 h2 => ?_⟩
  have h3:=(has_meet a b x y).2 ⟨h1,h2⟩
  unfold has at h3
  unfold emp at h
  omega
 ·rw [if_neg h]
  right
  have hm:=has_meet a b
  unfold emp at h
  have e0:=mx_or a.f0 b.f0; have e1:=mx_or a.f1 b.f1; have e2:=mn_or a.f2 b.f2; have e3:=mn_or a.f3 b.f3
  refine ⟨?_,by omega,?_,?_,by omega,?_,hm⟩
  all_goals
   revert h
   unfold meet
   split
   ·simp
   ·simp only; omega
theorem cnt_pcs (a m:S37) (x y:Int):cnt (pcs a m) x y =
  (if has ⟨a.f0,a.f1,a.f2,m.f1⟩ x y then 1 else 0) + (if has ⟨a.f0,m.f3,a.f2,a.f3⟩ x y then 1 else 0) +
  (if has ⟨a.f0,m.f1,m.f0,m.f3⟩ x y then 1 else 0) + (if has ⟨m.f2,m.f1,a.f2,m.f3⟩ x y then 1 else 0):=by
 unfold cnt pcs
 simp only [List.countP_cons,List.countP_nil,decide_eq_true_eq]
 omega
theorem cnt_cut (a b:S37) (x y:Int):cnt (cut a b) x y = if has a x y ∧ ¬ has b x y then 1 else 0:=by
 unfold cut
 rw [cnt_filter,cnt_pcs]
 rcases cm_cases a b with ⟨e,h⟩ | ⟨h0,h1,h2,h3,h4,h5,h6⟩
 ·rw [e]
  have h':=h x y
  by_cases hb:has b x y
  ·have ha:¬ has a x y:=fun ha => h' ha hb
   simp only [ha,false_and,if_false]
   (repeat' split) <;> simp only [has] at * <;> omega
  ·simp only [hb,not_false_eq_true,and_true]
   clear h h' hb e
   (repeat' split) <;> simp only [has] at * <;> omega
 ·have h':=h6 x y
  clear h6
  by_cases ha:has a x y
  ·by_cases hb:has b x y
   ·have hm:=h'.2 ⟨ha,hb⟩
    simp only [hb,not_true,and_false,if_false]
    clear h' ha hb
    (repeat' split) <;> simp only [has] at * <;> omega
   ·have hm:¬ has (cm a b) x y:=fun hm => hb (h'.1 hm).2
    simp only [ha,hb,not_false_eq_true,and_true,if_true]
    clear h' hb
    (repeat' split) <;> simp only [has] at * <;> omega
  ·simp only [ha,false_and,if_false]
   clear h'
   (repeat' split) <;> simp only [has] at * <;> omega
def inl (l:List S37) (x y:Int):Prop:=∃ q ∈ l,has q x y
theorem inl_nil (x y:Int):¬ inl [] x y:=by rintro ⟨q,h,_⟩; simp at h
theorem inl_cons (q:S37) (l:List S37) (x y:Int):inl (q :: l) x y ↔ has q x y ∨ inl l x y:=by
 unfold inl; simp
theorem inl_app (l m:List S37) (x y:Int):inl (l ++ m) x y ↔ inl l x y ∨ inl m x y:=by
 unfold inl
 constructor
 ·rintro ⟨q,h,h2⟩
  rcases List.mem_append.1 h with h | h
  ·exact .inl ⟨q,h,h2⟩
  ·exact .inr ⟨q,h,h2⟩
 ·rintro (⟨q,h,h2⟩ | ⟨q,h,h2⟩)
  ·exact ⟨q,List.mem_append_left _ h,h2⟩
  ·exact ⟨q,List.mem_append_right _ h,h2⟩
instance (l:List S37) (x y:Int):Decidable (inl l x y):=by unfold inl; exact inferInstance
theorem inl_cnt (l:List S37) (x y:Int):inl l x y ↔ 1 ≤ cnt l x y:=by
 unfold inl cnt
 rw [Nat.succ_le_iff,List.countP_pos_iff]
 simp
theorem cnt_app (l m:List S37) (x y:Int):cnt (l ++ m) x y = cnt l x y + cnt m x y:=List.countP_append
theorem cnt_cons (q:S37) (l:List S37) (x y:Int):cnt (q :: l) x y = cnt l x y + if has q x y then 1 else 0:=by
 unfold cnt; rw [List.countP_cons]; simp
def cuts (left:List S37) (q:S37):List S37:=left.flatMap fun y => cut y q
theorem cnt_cuts (left:List S37) (q:S37) (x y:Int):cnt (cuts left q) x y = if has q x y then 0 else cnt left x y:=by
 unfold cuts
 induction left with
 | nil => simp [cnt]
 | cons a left ih =>
  rw [List.flatMap_cons,cnt_app,ih,cnt_cut,cnt_cons]
  by_cases h1:has q x y <;> by_cases h2:has a x y <;> simp [h1,h2] <;> omega
def rest (r:S37) (l:List S37):List S37:=l.foldl cuts (if emp r then [] else [r])
theorem rest_nil (r:S37):rest r [] = if emp r then [] else [r]:=rfl
theorem rest_snoc (r:S37) (l:List S37) (q:S37):rest r (l ++ [q]) = cuts (rest r l) q:=by
 unfold rest; rw [List.foldl_append]; rfl
theorem cnt_fold (l:List S37) (x y:Int):∀ left,cnt (l.foldl cuts left) x y = if inl l x y then 0 else cnt left x y:=by
 induction l with
 | nil => intro left; simp [inl_nil]
 | cons q l ih =>
  intro left
  rw [List.foldl_cons,ih,cnt_cuts]
  by_cases h1:has q x y <;> by_cases h2:inl l x y <;> simp [h1,h2,inl_cons]
theorem cnt_rest (r:S37) (l:List S37) (x y:Int):cnt (rest r l) x y = if has r x y ∧ ¬ inl l x y then 1 else 0:=by
 unfold rest
 rw [cnt_fold]
 by_cases h0:emp r
 ·have h1:¬ has r x y:=by unfold emp at h0; unfold has; omega
  simp [h0,h1,cnt]
 ·by_cases h1:has r x y <;> by_cases h2:inl l x y <;> simp [h0,h1,h2,cnt]
theorem ne_cut (a b:S37):∀ q ∈ cut a b,¬ emp q:=by
 intro q hq
 unfold cut at hq
 have:=(List.mem_filter.1 hq).2
 simpa [ne] using this
theorem ne_fold (l:List S37):∀ left:List S37,(∀ q ∈ left,¬ emp q) → ∀ q ∈ l.foldl cuts left,¬ emp q:=by
 induction l with
 | nil => intro left h; exact h
 | cons b l ih =>
  intro left h
  rw [List.foldl_cons]
  refine ih _ fun q hq => ?_
  unfold cuts at hq
  obtain ⟨a,_,ha⟩:=List.mem_flatMap.1 hq
  exact ne_cut a b q ha
theorem ne_rest (r:S37) (l:List S37):∀ q ∈ rest r l,¬ emp q:=by
 refine ne_fold l _ fun q hq => ?_
 by_cases h:emp r
 ·simp [h] at hq
 ·simp [h] at hq; subst hq; exact h
theorem has_corner {q:S37} (h:¬ emp q):has q q.f0 q.f1:=by unfold emp at h; unfold has; omega
theorem rest_nil_iff (r:S37) (l:List S37):rest r l = [] ↔ ∀ x y,has r x y → inl l x y:=by
 constructor
 ·intro h x y hr
  have:=cnt_rest r l x y
  rw [h] at this
  by_cases hi:inl l x y
  ·exact hi
  ·simp [hr,hi,cnt] at this
 ·intro h
  cases hl:rest r l with
  | nil => rfl
  | cons q m =>
   have hq:=ne_rest r l q (by rw [hl]; simp)
   have h1:=cnt_rest r l q.f0 q.f1
   rw [hl,cnt_cons,if_pos (has_corner hq)] at h1
   split at h1
   ·rename_i h2; exact absurd (h _ _ h2.1) h2.2
   ·omega
theorem restl1 (q:S37) (L:List S37) (n i:Int) (r:List S37) (l2:List S37):∀ (l1 acc:List S37),(l1 ++ l2).length ≤ 4611686018427387904 → acc.length + (cuts l2 q).length < 4398046511104 →
  Ev (fun k => cover_Rest.l0 k (acc ++ cuts l2 q) L n (wrap64 (i + 1))) r → Ev (fun k => cover_Rest.l1 k acc L n i (l1 ++ l2) ((l1 ++ l2).length:Int) (l1.length:Int) q.f0 q.f1 q.f2 q.f3) r:=by
 induction l2 with
 | nil =>
  rintro l1 acc hn hb ⟨K,hK⟩
  refine ⟨K + 1,fun k hk => ?_⟩
  obtain ⟨k,rfl⟩:∃ m,k = m + 1:=⟨k - 1,by omega⟩
  simp only [cover_Rest.l1]
  rw [if_neg (mid_ge _)]
  have:=hK k (by omega)
  simpa [cuts] using this
 | cons a l2 ih =>
  intro l1 acc hn hb hE
  have hb2:acc.length + ((cut a q).length + (cuts l2 q).length) < 4398046511104:=by
   unfold cuts at hb ⊢
   rw [List.flatMap_cons,List.length_append] at hb
   exact hb
  obtain ⟨K,hK⟩:=ih (l1 ++ [a]) (acc ++ cut a q) (by rw [← mid_app]; exact hn) (by rw [List.length_append]; omega) (by
   have e:acc ++ cut a q ++ cuts l2 q = acc ++ cuts (a :: l2) q:=by unfold cuts; rw [List.flatMap_cons,List.append_assoc]
   rw [e]; exact hE)
  refine ⟨K + 7,fun k hk => ?_⟩
  obtain ⟨k,rfl⟩:∃ m,k = m + 1:=⟨k - 1,by omega⟩
  simp only [cover_Rest.l1]
  rw [if_pos (mid_lt _ _ _),if_pos (by omega),if_pos (mid_lt _ _ _),rd_mid,mid_next l1 a l2 hn,cut_eq a q k (by omega)]
  simp only [Option.bind_some]
  rw [if_pos (by omega),mid_app]
  exact hK k (by omega)
theorem restl0 (l2:List S37):∀ (l1 left:List S37),(l1 ++ l2).length ≤ 4611686018427387904 → (∀ i,i ≤ l2.length → ((l2.take i).foldl cuts left).length < 4398046511104) →
  Ev (fun k => cover_Rest.l0 k left (l1 ++ l2) ((l1 ++ l2).length:Int) (l1.length:Int)) (l2.foldl cuts left):=by
 induction l2 with
 | nil =>
  intro l1 left hn _
  refine ⟨1,fun k hk => ?_⟩
  obtain ⟨k,rfl⟩:∃ m,k = m + 1:=⟨k - 1,by omega⟩
  simp only [cover_Rest.l0]
  rw [if_neg (mid_ge _)]
  rfl
 | cons q l2 ih =>
  intro l1 left hn hb
  have hn2:((l1 ++ [q]) ++ l2).length ≤ 4611686018427387904:=by rw [← mid_app]; exact hn
  have ih2:=ih (l1 ++ [q]) (cuts left q) hn2 (fun i hi => by
   have:=hb (i + 1) (by simp; omega)
   simpa using this)
  have h0:=hb 0 (by simp)
  have h1:=hb 1 (by simp)
  simp only [List.take_zero,List.foldl_nil] at h0
  simp only [List.take_succ_cons,List.take_zero,List.foldl_cons,List.foldl_nil] at h1
  obtain ⟨K,hK⟩:=restl1 q (l1 ++ q :: l2) ((l1 ++ q :: l2).length:Int) (l1.length:Int) (l2.foldl cuts (cuts left q)) left [] [] (by simp; omega) (by simpa using h1) (by
   rw [mid_next l1 q l2 hn,List.nil_append,mid_app]
   exact ih2)
  refine ⟨K + 1,fun k hk => ?_⟩
  obtain ⟨k,rfl⟩:∃ m,k = m + 1:=⟨k - 1,by omega⟩
  simp only [cover_Rest.l0]
  rw [if_pos (mid_lt _ _ _),if_pos (by omega),if_pos (mid_lt _ _ _),rd_mid]
  exact hK k (by omega)
theorem rest_eq (r:S37) (l:List S37) (hn:l.length ≤ 4611686018427387904) (hb:∀ i,i ≤ l.length → (rest r (l.take i)).length < 4398046511104) :
  Ev (fun k => cover_Rest.f k r.f0 r.f1 r.f2 r.f3 l) (rest r l):=by
 obtain ⟨K,hK⟩:=restl0 l [] (if emp r then [] else [r]) (by simpa using hn) hb
 refine ⟨K + 1,fun k hk => ?_⟩
 obtain ⟨k,rfl⟩:∃ m,k = m + 1:=⟨k - 1,by omega⟩
 have:=hK k (by omega)
 unfold cover_Rest.f
 rw [empty_eq]
 simp only [Option.bind_some,cover_Rest.j0]
 by_cases h:emp r
 ·rw [if_pos (by simpa using h)]
  rw [if_pos h] at this
  rw [rest,if_pos h]
  exact this
 ·rw [if_neg (by simpa using h),if_pos (by simp)]
  rw [if_neg h] at this
  rw [rest,if_neg h]
  exact this
theorem rd_mid_i (l1:List Int) (x:Int) (l2:List Int):rd (l1 ++ x :: l2) (l1.length:Int) = x:=by unfold rd; simp
def join (l:List S37):List S37:=l.foldl (fun out r => out ++ rest r out) []
theorem join_snoc (l:List S37) (r:S37):join (l ++ [r]) = join l ++ rest r (join l):=by unfold join; rw [List.foldl_append]; rfl
theorem snoc_ind {α:Type} {P:List α → Prop} (h0:P []) (hs:∀ l x,P l → P (l ++ [x])) (l:List α):P l:=by
 have key:∀ n (l:List α),l.length = n → P l:=by
  intro n
  induction n with
  | zero => intro l h; rw [List.length_eq_zero_iff.1 h]; exact h0
  | succ n ih =>
   intro l h
   have hne:l ≠ []:=by rintro rfl; simp at h
   rw [← List.dropLast_concat_getLast hne]
   exact hs _ _ (ih _ (by rw [List.length_dropLast]; omega))
 exact key l.length l rfl
theorem cnt_join (l:List S37) (x y:Int):cnt (join l) x y = if inl l x y then 1 else 0:=by
 induction l using snoc_ind with
 | h0 => simp [join,cnt,inl_nil]
 | hs l r ih =>
  rw [join_snoc,cnt_app,cnt_rest,ih]
  have h1:inl (join l) x y ↔ inl l x y:=by
   rw [inl_cnt,ih]
   by_cases h:inl l x y <;> simp [h]
  have h2:inl (l ++ [r]) x y ↔ inl l x y ∨ has r x y:=by
   rw [inl_app,inl_cons]
   simp [inl_nil]
  simp only [h1,h2]
  by_cases g1:inl l x y <;> by_cases g2:has r x y <;> simp [g1,g2]
theorem ne_join (l:List S37):∀ q ∈ join l,¬ emp q:=by
 induction l using snoc_ind with
 | h0 => intro q hq; simp [join] at hq
 | hs l r ih =>
  intro q hq
  rw [join_snoc,List.mem_append] at hq
  rcases hq with hq | hq
  ·exact ih q hq
  ·exact ne_rest _ _ q hq
def inXY (X Y:List Int) (q:S37):Prop:=(q.f0 ∈ X ∧ q.f2 ∈ X) ∧ q.f1 ∈ Y ∧ q.f3 ∈ Y
theorem inXY_cut {X Y:List Int} {a b:S37} (ha:inXY X Y a) (hb:inXY X Y b):∀ q ∈ cut a b,inXY X Y q:=by
 intro q hq
 unfold cut at hq
 have hq:=(List.mem_filter.1 hq).1
 obtain ⟨⟨a0,a2⟩,a1,a3⟩:=ha
 obtain ⟨⟨b0,b2⟩,b1,b3⟩:=hb
 have hm:inXY X Y (cm a b):=by
  unfold cm
  split
  ·exact ⟨⟨a0,a2⟩,a3,a3⟩
  ·rename_i h
   have e0:=mx_or a.f0 b.f0; have e1:=mx_or a.f1 b.f1; have e2:=mn_or a.f2 b.f2; have e3:=mn_or a.f3 b.f3
   unfold meet at h ⊢
   split
   ·rename_i h2; rw [if_pos h2] at h; exfalso; apply h; unfold emp; simp
   ·refine ⟨⟨?_,?_⟩,?_,?_⟩
    ·show mx a.f0 b.f0 ∈ X; rcases e0 with ⟨e,_⟩ | ⟨e,_⟩ <;> rw [e] <;> assumption
    ·show mn a.f2 b.f2 ∈ X; rcases e2 with ⟨e,_⟩ | ⟨e,_⟩ <;> rw [e] <;> assumption
    ·show mx a.f1 b.f1 ∈ Y; rcases e1 with ⟨e,_⟩ | ⟨e,_⟩ <;> rw [e] <;> assumption
    ·show mn a.f3 b.f3 ∈ Y; rcases e3 with ⟨e,_⟩ | ⟨e,_⟩ <;> rw [e] <;> assumption
 obtain ⟨⟨m0,m2⟩,m1,m3⟩:=hm
 unfold pcs at hq
 simp only [List.mem_cons,List.not_mem_nil,or_false] at hq
 rcases hq with rfl | rfl | rfl | rfl
 ·exact ⟨⟨a0,a2⟩,a1,m1⟩
 ·exact ⟨⟨a0,a2⟩,m3,a3⟩
 ·exact ⟨⟨a0,m0⟩,m1,m3⟩
 ·exact ⟨⟨m2,a2⟩,m1,m3⟩
theorem inXY_fold {X Y:List Int} (l:List S37) (hl:∀ q ∈ l,inXY X Y q):∀ left:List S37,(∀ q ∈ left,inXY X Y q) → ∀ q ∈ l.foldl cuts left,inXY X Y q:=by
 induction l with
 | nil => intro left h; exact h
 | cons b l ih =>
  intro left h
  rw [List.foldl_cons]
  refine ih (fun q hq => hl q (by simp [hq])) _ fun q hq => ?_
  unfold cuts at hq
  obtain ⟨a,ha,hqa⟩:=List.mem_flatMap.1 hq
  exact inXY_cut (h a ha) (hl b (by simp)) q hqa
theorem inXY_rest {X Y:List Int} (r:S37) (l:List S37) (hr:inXY X Y r) (hl:∀ q ∈ l,inXY X Y q):∀ q ∈ rest r l,inXY X Y q:=by
 refine inXY_fold l hl _ fun q hq => ?_
 by_cases h:emp r
 ·simp [h] at hq
 ·simp [h] at hq; subst hq; exact hr
theorem inXY_join {X Y:List Int} (l:List S37) (hl:∀ q ∈ l,inXY X Y q):∀ q ∈ join l,inXY X Y q:=by
 induction l using snoc_ind with
 | h0 => intro q hq; simp [join] at hq
 | hs l r ih =>
  have h1:=ih fun q hq => hl q (by simp [hq])
  intro q hq
  rw [join_snoc,List.mem_append] at hq
  rcases hq with hq | hq
  ·exact h1 q hq
  ·exact inXY_rest r _ (hl r (by simp)) h1 q hq
theorem pigeon (G:List (Int × Int)) (l:List S37) (h1:∀ x y,cnt l x y ≤ 1) (h2:∀ q ∈ l,¬ emp q ∧ (q.f0,q.f1) ∈ G):l.length ≤ G.length:=by
 have k1:∀ G:List (Int × Int),(G.map fun p => cnt l p.1 p.2).sum ≤ G.length:=by
  intro G
  induction G with
  | nil => simp
  | cons p G ih => simp only [List.map_cons,List.sum_cons,List.length_cons]; have:=h1 p.1 p.2; omega
 have k2:∀ (l:List S37),(∀ q ∈ l,¬ emp q ∧ (q.f0,q.f1) ∈ G) → l.length ≤ (G.map fun p => cnt l p.1 p.2).sum:=by
  intro l
  induction l with
  | nil => simp
  | cons q l ih =>
   intro h
   have hh:=ih fun q hq => h q (by simp [hq])
   obtain ⟨g1,g2⟩:=h q (by simp)
   have k3:∀ G:List (Int × Int),(q.f0,q.f1) ∈ G → (G.map fun p => cnt l p.1 p.2).sum + 1 ≤ (G.map fun p => cnt (q :: l) p.1 p.2).sum:=by
    intro G
    induction G with
    | nil => intro h; simp at h
    | cons p G ih2 =>
     intro hm
     simp only [List.map_cons,List.sum_cons]
     have e:=cnt_cons q l p.1 p.2
     have k4:(G.map fun p => cnt l p.1 p.2).sum ≤ (G.map fun p => cnt (q :: l) p.1 p.2).sum:=by
      clear ih2 hm
      induction G with
      | nil => simp
      | cons p G ih3 => simp only [List.map_cons,List.sum_cons]; have:=cnt_cons q l p.1 p.2; omega
     rcases List.mem_cons.1 hm with hm | hm
     ·subst hm
      rw [if_pos (has_corner g1)] at e
      omega
     ·have:=ih2 hm
      omega
   have:=k3 G g2
   simp only [List.length_cons]
   omega
 exact Nat.le_trans (k2 l h2) (k1 G)
def ex (l:List S37):List Int:=l.flatMap fun q => [q.f0,q.f2]
def ey (l:List S37):List Int:=l.flatMap fun q => [q.f1,q.f3]
theorem ex_len (l:List S37):(ex l).length = 2 * l.length:=by induction l with | nil => rfl | cons a l ih => unfold ex at ih ⊢; rw [List.flatMap_cons,List.length_append,ih]; simp; omega
theorem ey_len (l:List S37):(ey l).length = 2 * l.length:=by induction l with | nil => rfl | cons a l ih => unfold ey at ih ⊢; rw [List.flatMap_cons,List.length_append,ih]; simp; omega
theorem inXY_self (l:List S37):∀ q ∈ l,inXY (ex l) (ey l) q:=by
 intro q hq
 unfold inXY ex ey
 simp only [List.mem_flatMap]
 exact ⟨⟨⟨q,hq,by simp⟩,⟨q,hq,by simp⟩⟩,⟨q,hq,by simp⟩,⟨q,hq,by simp⟩⟩
theorem few_of {X Y:List Int} (l:List S37) (h1:∀ x y,cnt l x y ≤ 1) (h2:∀ q ∈ l,¬ emp q) (h3:∀ q ∈ l,inXY X Y q):l.length ≤ X.length * Y.length:=by
 have:=pigeon (X.flatMap fun x => Y.map fun y => (x,y)) l h1 fun q hq => ⟨h2 q hq,by
  obtain ⟨⟨g0,_⟩,g1,_⟩:=h3 q hq
  rw [List.mem_flatMap]
  exact ⟨_,g0,List.mem_map.2 ⟨_,g1,rfl⟩⟩⟩
 have e:(X.flatMap fun x => Y.map fun y => (x,y)).length = X.length * Y.length:=by
  rw [List.length_flatMap]
  clear h3 this
  induction X with
  | nil => simp
  | cons a X ih => simp only [List.map_cons,List.sum_cons,List.length_map,List.length_cons,Nat.succ_mul] at ih ⊢; omega
 omega
theorem join_len (l:List S37) (h:l.length ≤ 100):(join l).length ≤ 40000:=by
 have:=few_of (join l) (fun x y => by rw [cnt_join]; split <;> omega) (ne_join l) (inXY_join l (inXY_self l))
 have e1:=ex_len l; have e2:=ey_len l
 have:(ex l).length * (ey l).length ≤ 200 * 200:=Nat.mul_le_mul (by omega) (by omega)
 omega
theorem rest_join_len (l:List S37) (r:S37) (h:l.length < 100) (i:Nat):(rest r ((join l).take i)).length ≤ 40000:=by
 have hX:∀ q ∈ l ++ [r],inXY (ex (l ++ [r])) (ey (l ++ [r])) q:=inXY_self _
 have hj:∀ q ∈ (join l).take i,inXY (ex (l ++ [r])) (ey (l ++ [r])) q:=fun q hq => inXY_join l (fun q hq => hX q (by simp [hq])) q (List.mem_of_mem_take hq)
 have:=few_of (rest r ((join l).take i)) (fun x y => by rw [cnt_rest]; split <;> omega) (ne_rest _ _) (inXY_rest r _ (hX r (by simp)) hj)
 have e1:=ex_len (l ++ [r]); have e2:=ey_len (l ++ [r])
 rw [List.length_append,List.length_singleton] at e1 e2
 have:(ex (l ++ [r])).length * (ey (l ++ [r])).length ≤ 200 * 200:=Nat.mul_le_mul (by omega) (by omega)
 omega
theorem joinl (l2:List S37):∀ (l1:List S37),(l1 ++ l2).length ≤ 90 →
  Ev (fun k => cover_Join.l0 k (join l1) (l1 ++ l2) ((l1 ++ l2).length:Int) (l1.length:Int)) (join (l1 ++ l2)):=by
 induction l2 with
 | nil =>
  intro l1 hn
  refine ⟨1,fun k hk => ?_⟩
  obtain ⟨k,rfl⟩:∃ m,k = m + 1:=⟨k - 1,by omega⟩
  simp only [cover_Join.l0]
  rw [if_neg (mid_ge _),List.append_nil]
 | cons q l2 ih =>
  intro l1 hn
  obtain ⟨K,hK⟩:=ih (l1 ++ [q]) (by rw [← mid_app]; exact hn)
  have hl:l1.length < 90:=by simp at hn; omega
  have hj:=join_len l1 (by omega)
  obtain ⟨K2,h2⟩:=rest_eq q (join l1) (by omega) (fun i _ => by have:=rest_join_len l1 q (by omega) i; omega)
  have hr:=rest_join_len l1 q (by omega) (join l1).length
  rw [List.take_length] at hr
  dsimp only at hK h2
  refine ⟨K + K2 + 1,fun k hk => ?_⟩
  obtain ⟨k,rfl⟩:∃ m,k = m + 1:=⟨k - 1,by omega⟩
  simp only [cover_Join.l0]
  rw [if_pos (mid_lt _ _ _),if_pos (by omega),if_pos (mid_lt _ _ _),rd_mid,mid_next l1 q l2 (by omega),h2 k (by omega)]
  simp only [Option.bind_some]
  rw [if_pos (by omega),← join_snoc,mid_app l1 q l2]
  exact hK k (by omega)
theorem join_eq (l:List S37) (hn:l.length ≤ 90):Ev (fun k => cover_Join.f k l) (join l):=joinl l [] hn
theorem cut_ref (a b:S37):cut a b = if emp a then [] else if emp (meet a b) then [a] else
  (((if a.f1 < (meet a b).f1 then [⟨a.f0,a.f1,a.f2,(meet a b).f1⟩] else []) ++ (if (meet a b).f3 < a.f3 then [⟨a.f0,(meet a b).f3,a.f2,a.f3⟩] else [])) ++ (if a.f0 < (meet a b).f0 then [⟨a.f0,(meet a b).f1,(meet a b).f0,(meet a b).f3⟩] else [])) ++ (if (meet a b).f2 < a.f2 then [⟨(meet a b).f2,(meet a b).f1,a.f2,(meet a b).f3⟩] else []):=by
 by_cases ha:emp a
 ·rw [if_pos ha]
  have hm:emp (meet a b):=by
   have e0:=mx_or a.f0 b.f0; have e1:=mx_or a.f1 b.f1; have e2:=mn_or a.f2 b.f2; have e3:=mn_or a.f3 b.f3
   unfold meet
   split
   ·unfold emp; simp
   ·rename_i h; unfold emp at h ha ⊢; simp only at h ⊢; omega
  unfold cut cm
  rw [if_pos hm]
  unfold emp at ha
  simp only [pcs,List.filter_cons,List.filter_nil,ne_eq,decide_eq_true_eq]
  repeat rw [if_neg (by omega)]
 rw [if_neg ha]
 by_cases hm:emp (meet a b)
 ·rw [if_pos hm]
  unfold cut cm
  rw [if_pos hm]
  unfold emp at ha
  simp only [pcs,List.filter_cons,List.filter_nil,ne_eq,decide_eq_true_eq]
  rw [if_pos (by omega)]
  repeat rw [if_neg (by omega)]
 rw [if_neg hm]
 have hc:cm a b = meet a b:=by unfold cm; rw [if_neg hm]
 have hh:=cm_cases a b
 rw [hc] at hh
 unfold cut
 rw [hc]
 generalize meet a b = m at hh hm ⊢
 have hi:a.f0 ≤ m.f0 ∧ m.f0 < m.f2 ∧ m.f2 ≤ a.f2 ∧ a.f1 ≤ m.f1 ∧ m.f1 < m.f3 ∧ m.f3 ≤ a.f3:=by
  rcases hh with ⟨e,_⟩ | ⟨h0,h1,h2,h3,h4,h5,_⟩
  ·exfalso; rw [e] at hm; unfold emp at hm; simp at hm
  ·exact ⟨h0,h1,h2,h3,h4,h5⟩
 clear hh hc
 unfold emp at ha hm
 have e1:ne ⟨a.f0,a.f1,a.f2,m.f1⟩ = decide (a.f1 < m.f1):=by rw [ne_eq,decide_eq_decide]; simp only; omega
 have e2:ne ⟨a.f0,m.f3,a.f2,a.f3⟩ = decide (m.f3 < a.f3):=by rw [ne_eq,decide_eq_decide]; simp only; omega
 have e3:ne ⟨a.f0,m.f1,m.f0,m.f3⟩ = decide (a.f0 < m.f0):=by rw [ne_eq,decide_eq_decide]; simp only; omega
 have e4:ne ⟨m.f2,m.f1,a.f2,m.f3⟩ = decide (m.f2 < a.f2):=by rw [ne_eq,decide_eq_decide]; simp only; omega
 simp only [pcs,List.filter_cons,List.filter_nil,e1,e2,e3,e4,decide_eq_true_eq]
 by_cases g1:a.f1 < m.f1 <;> by_cases g2:m.f3 < a.f3 <;> by_cases g3:a.f0 < m.f0 <;> by_cases g4:m.f2 < a.f2 <;> simp [g1,g2,g3,g4]
theorem inn (x y:Int) (l2:List S37):∀ (l1:List S37) (k:Nat),l2.length < k → (l1 ++ l2).length ≤ 4611686018427387904 →
  decoupageref03_In.l0 k (l1 ++ l2) x y ((l1 ++ l2).length:Int) (l1.length:Int) = some (decide (inl l2 x y)):=by
 induction l2 with
 | nil =>
  intro l1 k hk _
  obtain ⟨k,rfl⟩:∃ m,k = m + 1:=⟨k - 1,by omega⟩
  simp only [decoupageref03_In.l0]
  rw [if_neg (mid_ge _)]
  simp [inl_nil]
 | cons q l2 ih =>
  intro l1 k hk hn
  obtain ⟨k,rfl⟩:∃ m,k = m + 1:=⟨k - 1,by omega⟩
  simp only [List.length_cons] at hk
  simp only [decoupageref03_In.l0]
  rw [if_pos (mid_lt _ _ _),if_pos (by omega),if_pos (mid_lt _ _ _),rd_mid,mid_next l1 q l2 hn,rholds_eq]
  simp only [Option.bind_some]
  rw [mid_app] at hn ⊢
  by_cases h:has q x y
  ·simp [h,inl_cons]
  ·rw [if_neg (by simpa using h),ih (l1 ++ [q]) k (by omega) hn]
   simp [h,inl_cons]
theorem in_eq (l:List S37) (x y:Int) (k:Nat) (hk:l.length < k) (hn:l.length ≤ 4611686018427387904):decoupageref03_In.f k l x y = some (decide (inl l x y)):=by
 unfold decoupageref03_In.f
 exact inn x y l [] k hk hn
def shows (i:S39) (x y:Int):Prop:=has i.f2 x y ∧ has i.f4 x y ∧ (i.f1 = 1 → ¬ has i.f3 x y)
instance (i:S39) (x y:Int):Decidable (shows i x y):=by unfold shows; exact inferInstance
theorem rdi (l:List S39) (n:Nat):rd_T39 l (n:Int) = l.getD n z39:=by unfold rd_T39; simp
def ownAt (l:List S39) (x y:Int):Nat → Option Nat
 | 0 => none
 | n + 1 => if shows (l.getD n z39) x y then some n else ownAt l x y n
theorem ownAt_lt (l:List S39) (x y:Int):∀ n m,ownAt l x y n = some m → m < n ∧ shows (l.getD m z39) x y ∧ ∀ j,m < j → j < n → ¬ shows (l.getD j z39) x y
 | 0,m,h => by simp [ownAt] at h
 | n + 1,m,h => by
  unfold ownAt at h
  split at h
  ·rename_i hs
   obtain rfl:=Option.some.inj h
   exact ⟨by omega,hs,fun j h1 h2 => by omega⟩
  ·rename_i hs
   obtain ⟨h1,h2,h3⟩:=ownAt_lt l x y n m h
   refine ⟨by omega,h2,fun j h4 h5 => ?_⟩
   rcases Nat.lt_or_ge j n with h6 | h6
   ·exact h3 j h4 h6
   ·obtain rfl:j = n:=by omega
    exact hs
def ownr (l:List S39) (x y:Int):Option Nat:=ownAt l x y l.length
theorem ownr_lt {l:List S39} {x y:Int} {m:Nat} (h:ownr l x y = some m):m < l.length:=(ownAt_lt l x y _ m h).1
def seen (i:S39):S37:=meet i.f2 i.f4
theorem seen_eq (i:S39):owner_Seen.f i.f0 i.f1 i.f2.f0 i.f2.f1 i.f2.f2 i.f2.f3 i.f3.f0 i.f3.f1 i.f3.f2 i.f3.f3 i.f4.f0 i.f4.f1 i.f4.f2 i.f4.f3 i.f5 = some ((seen i).f0,(seen i).f1,(seen i).f2,(seen i).f3):=by
 unfold owner_Seen.f seen
 rw [meet_eq]
 rfl
def eqr (r s:S37):Bool:=r.f0 == s.f0 && (r.f1 == s.f1 && (r.f2 == s.f2 && (r.f3 == s.f3)))
theorem eqr_iff (r s:S37):eqr r s = true ↔ r = s:=by
 unfold eqr
 cases r; cases s
 simp
def alk (a b:S39):Bool:=a.f1 == b.f1 && (eqr a.f2 b.f2 && (eqr a.f3 b.f3 && (eqr a.f4 b.f4 && (a.f5 == b.f5))))
theorem alk_iff (a b:S39):alk a b = true ↔ a.f1 = b.f1 ∧ a.f2 = b.f2 ∧ a.f3 = b.f3 ∧ a.f4 = b.f4 ∧ a.f5 = b.f5:=by
 unfold alk
 simp only [Bool.and_eq_true,beq_iff_eq,eqr_iff]
theorem alk_comm (a b:S39):alk a b = alk b a:=by
 rw [Bool.eq_iff_iff,alk_iff,alk_iff]
 constructor <;> rintro ⟨h1,h2,h3,h4,h5⟩ <;> exact ⟨h1.symm,h2.symm,h3.symm,h4.symm,h5.symm⟩
theorem alike_eq (a b:S39):harm_Alike.f a.f0 a.f1 a.f2.f0 a.f2.f1 a.f2.f2 a.f2.f3 a.f3.f0 a.f3.f1 a.f3.f2 a.f3.f3 a.f4.f0 a.f4.f1 a.f4.f2 a.f4.f3 a.f5 b.f0 b.f1 b.f2.f0 b.f2.f1 b.f2.f2 b.f2.f3 b.f3.f0 b.f3.f1 b.f3.f2 b.f3.f3 b.f4.f0 b.f4.f1 b.f4.f2 b.f4.f3 b.f5 = some (alk a b):=by
 unfold harm_Alike.f alk
 have e:∀ r s:S37,(r.f0 == s.f0 && (r.f1 == s.f1 && (r.f2 == s.f2 && (r.f3 == s.f3)))) = eqr r s:=fun _ _ => rfl
 rw [e,e,e]
 by_cases h:a.f1 = b.f1 <;> cases eqr a.f2 b.f2 <;> cases eqr a.f3 b.f3 <;> cases eqr a.f4 b.f4 <;> simp [h]
def pre:List S39 → List S39 → Nat
 | a :: as_,b :: bs => if alk a b then pre as_ bs + 1 else 0
 | _,_ => 0
theorem pre_le:∀ (a b:List S39),pre a b ≤ a.length ∧ pre a b ≤ b.length
 | [],_ => by simp [pre]
 | _ :: _,[] => by simp [pre]
 | a :: as_,b :: bs => by
  have:=pre_le as_ bs
  unfold pre
  split <;> simp <;> omega
theorem pre_comm:∀ (a b:List S39),pre a b = pre b a
 | [],[] => rfl
 | [],_ :: _ => rfl
 | _ :: _,[] => rfl
 | a :: as_,b :: bs => by
  unfold pre
  rw [alk_comm a b,pre_comm as_ bs]
def midA (a b:List S39):List S39 :=
 let x:=a.drop (pre a b); let y:=b.drop (pre a b)
 (x.reverse.drop (pre x.reverse y.reverse)).reverse
def midB (a b:List S39):List S39 :=
 let x:=a.drop (pre a b); let y:=b.drop (pre a b)
 (y.reverse.drop (pre x.reverse y.reverse)).reverse
theorem midB_eq (a b:List S39):midB a b = midA b a:=by
 unfold midA midB
 simp only
 rw [pre_comm b a,pre_comm (List.drop (pre a b) b).reverse]
theorem midA_len (a b:List S39):(midA a b).length ≤ a.length:=by
 unfold midA
 simp only [List.length_reverse,List.length_drop]
 omega
def harm (a b:List S39):List S37:=join ((midA a b ++ midB a b).map seen)
def suf (a b:List S39):Nat:=pre (a.drop (pre a b)).reverse (b.drop (pre a b)).reverse
theorem pre_drop:∀ (a b:List S39) (n:Nat),n ≤ pre a b → pre a b = n + pre (a.drop n) (b.drop n)
 | a,b,0,_ => by simp
 | [],_,n + 1,h => by simp [pre] at h
 | _ :: _,[],n + 1,h => by simp [pre] at h
 | a :: as_,b :: bs,n + 1,h => by
  have e:pre (a :: as_) (b :: bs) = if alk a b then pre as_ bs + 1 else 0:=rfl
  rw [e] at h ⊢
  split at h
  ·rename_i hc
   rw [if_pos hc,List.drop_succ_cons,List.drop_succ_cons,pre_drop as_ bs n (by omega)]
   omega
  ·omega
theorem suf_le (a b:List S39):pre a b + suf a b ≤ a.length ∧ pre a b + suf a b ≤ b.length:=by
 have h1:=pre_le (a.drop (pre a b)).reverse (b.drop (pre a b)).reverse
 have h2:=pre_le a b
 simp only [List.length_reverse,List.length_drop] at h1
 unfold suf
 omega
theorem midA_cut (a b:List S39):midA a b = (a.take (a.length - suf a b)).drop (pre a b):=by
 have h:=suf_le a b
 have e:midA a b = ((a.drop (pre a b)).reverse.drop (suf a b)).reverse:=rfl
 rw [e,List.drop_reverse,List.reverse_reverse,List.length_drop,List.drop_take]
 congr 1
 omega
theorem suf_comm (a b:List S39):suf a b = suf b a:=by unfold suf; rw [pre_comm b a,pre_comm (List.drop (pre a b) b).reverse]
theorem midB_cut (a b:List S39):midB a b = (b.take (b.length - suf a b)).drop (pre a b):=by rw [midB_eq,midA_cut,suf_comm,pre_comm]
theorem shows_eq (i:S39) (x y:Int):owner_Shows.f i.f0 i.f1 i.f2.f0 i.f2.f1 i.f2.f2 i.f2.f3 i.f3.f0 i.f3.f1 i.f3.f2 i.f3.f3 i.f4.f0 i.f4.f1 i.f4.f2 i.f4.f3 i.f5 x y = some (decide (shows i x y)):=by
 unfold owner_Shows.f
 rw [holds_eq,holds_eq,holds_eq]
 simp only [Option.bind_some]
 unfold shows
 by_cases h1:has i.f2 x y <;> by_cases h2:has i.f4 x y <;> by_cases h3:i.f1 = 1 <;> by_cases h4:has i.f3 x y <;> simp [h1,h2,h3,h4]
theorem ofl (l:List S39) (x y:Int) (hl:l.length ≤ 4611686018427387904):∀ (n k:Nat),n < k → n ≤ l.length →
  owner_Of.l0 k l x y ((n:Int) - 1) = some (match ownAt l x y n with | some m => ((m:Int),true) | none => (0,false))
 | 0,k,hk,_ => by
  obtain ⟨k,rfl⟩:∃ m,k = m + 1:=⟨k - 1,by omega⟩
  simp only [owner_Of.l0]
  rw [if_neg (by omega)]
  rfl
 | n + 1,k,hk,hn => by
  obtain ⟨k,rfl⟩:∃ m,k = m + 1:=⟨k - 1,by omega⟩
  have e:((n + 1:Nat):Int) - 1 = (n:Int):=by omega
  rw [e]
  simp only [owner_Of.l0]
  rw [if_pos (by omega),if_pos (by omega),if_pos (by omega),rdi,shows_eq,w64 (by omega) (by omega)]
  simp only [Option.bind_some]
  unfold ownAt
  by_cases hs:shows (l.getD n z39) x y
  ·rw [if_pos (by simpa using hs),if_pos hs]
  ·rw [if_neg (by simpa using hs),if_neg hs]
   exact ofl l x y hl n k (by omega) (by omega)
theorem of_eq (l:List S39) (x y:Int) (k:Nat) (hk:l.length < k) (hl:l.length ≤ 4611686018427387904) :
  owner_Of.f k l x y = some (match ownr l x y with | some m => ((m:Int),true) | none => (0,false)):=by
 unfold owner_Of.f
 rw [w64 (by omega) (by omega)]
 exact ofl l x y hl l.length k hk (Nat.le_refl _)
theorem rshows_eq (i:S39) (x y:Int):decoupageref26_Shows.f i.f0 i.f1 i.f2.f0 i.f2.f1 i.f2.f2 i.f2.f3 i.f3.f0 i.f3.f1 i.f3.f2 i.f3.f3 i.f4.f0 i.f4.f1 i.f4.f2 i.f4.f3 i.f5 x y = some (decide (shows i x y)):=by
 unfold decoupageref26_Shows.f
 rw [rholds_eq,rholds_eq,rholds_eq]
 simp only [Option.bind_some]
 unfold shows
 by_cases h1:has i.f2 x y <;> by_cases h2:has i.f4 x y <;> by_cases h3:i.f1 = 1 <;> by_cases h4:has i.f3 x y <;> simp [h1,h2,h3,h4]
def ownI:Option Nat → Int
 | some m => (m:Int)
 | none => -1
theorem rownl (l:List S39) (x y:Int) (hl:l.length ≤ 4611686018427387904):∀ (d n k:Nat),n + d = l.length → d < k →
  decoupageref26_Owner.l0 k l x y (ownI (ownAt l x y n)) (l.length:Int) (n:Int) = some (ownI (ownr l x y))
 | 0,n,k,hn,hk => by
  obtain ⟨k,rfl⟩:∃ m,k = m + 1:=⟨k - 1,by omega⟩
  obtain rfl:n = l.length:=by omega
  simp only [decoupageref26_Owner.l0]
  rw [if_neg (by omega)]
  rfl
 | d + 1,n,k,hn,hk => by
  obtain ⟨k,rfl⟩:∃ m,k = m + 1:=⟨k - 1,by omega⟩
  simp only [decoupageref26_Owner.l0]
  have e:wrap64 ((n:Int) + 1) = ((n + 1:Nat):Int):=by rw [w64 (by omega) (by omega)]; omega
  rw [if_pos (by omega),if_pos (by omega),if_pos (by omega),rdi,rshows_eq,e]
  simp only [Option.bind_some]
  have ih:=rownl l x y hl d (n + 1) k (by omega) (by omega)
  simp only [ownAt] at ih
  by_cases hs:shows (l.getD n z39) x y
  ·rw [if_pos (by simpa using hs)]
   rw [if_pos hs] at ih
   exact ih
  ·rw [if_neg (by simpa using hs)]
   rw [if_neg hs] at ih
   exact ih
theorem rown_eq (l:List S39) (x y:Int) (k:Nat) (hk:l.length < k) (hl:l.length ≤ 4611686018427387904):decoupageref26_Owner.f k l x y = some (ownI (ownr l x y)):=by
 unfold decoupageref26_Owner.f
 exact rownl l x y hl l.length 0 k (by omega) hk
theorem cmp_in (zs:List Int):∀ j,j < zs.length → zs.toArray[j]! ∈ Lib.compact zs:=by
 intro j
 induction j with
 | zero => intro h; exact List.mem_map.2 ⟨0,List.mem_filter.2 ⟨by simpa using h,by unfold Lib.keeps; simp⟩,rfl⟩
 | succ j ih =>
  intro h
  by_cases hk:zs.toArray[j + 1]! = zs.toArray[j]!
  ·rw [hk]; exact ih (by omega)
  ·exact List.mem_map.2 ⟨j + 1,List.mem_filter.2 ⟨by simpa using h,Lib.keeps_pos hk⟩,rfl⟩
theorem at_to (zs:List Int) (j:Nat) (h:j < zs.length):zs.toArray[j]! = zs[j]:=by
 rw [getElem!_pos zs.toArray j (by simpa using h)]
 simp
theorem cmp_mem (zs:List Int) (x:Int):x ∈ Lib.compact zs ↔ x ∈ zs:=by
 constructor
 ·intro h
  obtain ⟨j,hj,rfl⟩:=List.mem_map.1 h
  have hj':j < zs.length:=by simpa using (List.mem_filter.1 hj).1
  show zs.toArray[j]! ∈ zs
  rw [at_to zs j hj']
  exact List.getElem_mem hj'
 ·intro h
  obtain ⟨j,hj,rfl⟩:=List.mem_iff_getElem.1 h
  rw [← at_to zs j hj]
  exact cmp_in zs j hj
theorem cmp_lt (zs:List Int) (h:zs.Pairwise (· ≤ ·)):(Lib.compact zs).Pairwise (· < ·):=by
 have hm:∀ a b,a ≤ b → b < zs.length → zs.toArray[a]! ≤ zs.toArray[b]!:=by
  intro a b hab hb
  rw [at_to zs a (by omega),at_to zs b hb]
  rcases Nat.lt_or_ge a b with h1 | h1
  ·exact List.pairwise_iff_getElem.1 h a b (by omega) hb h1
  ·obtain rfl:a = b:=by omega
   exact Int.le_refl _
 unfold Lib.compact Lib.compactUpTo
 rw [List.pairwise_map,List.pairwise_filter]
 refine List.pairwise_iff_getElem.2 ?_
 intro i j hi hj hij _ hk
 rw [List.getElem_range] at hk
 rw [List.getElem_range,List.getElem_range]
 have hj':j < zs.length:=by simpa using hj
 have hk':=of_decide_eq_true hk
 have hne:zs.toArray[j]! ≠ zs.toArray[j - 1]!:=by
  rcases hk' with h0 | h0
  ·omega
  ·exact h0
 have h1:=hm i (j - 1) (by omega) (by omega)
 have h2:=hm (j - 1) j (by omega) hj'
 omega
theorem edg_lt (s:List Int):(edg s).Pairwise (· < ·):=by
 refine cmp_lt _ ?_
 have h:=List.pairwise_mergeSort (le:=fun x y:Int => decide (x ≤ y)) (by intro a b c h1 h2; simp at h1 h2 ⊢; omega) (by intro a b; simp; omega) s
 exact h.imp (fun h => by simpa using h)
theorem edg_mem (s:List Int) (x:Int):x ∈ edg s ↔ x ∈ s:=by
 unfold edg
 rw [cmp_mem,List.mem_mergeSort]
theorem edg_len (s:List Int):(edg s).length ≤ s.length:=by
 unfold edg Lib.compact Lib.compactUpTo
 rw [List.length_map]
 refine Nat.le_trans (List.length_filter_le _ _) ?_
 rw [List.length_range,List.length_mergeSort]
 exact Nat.le_refl _
structure Edges (l:List S39) (a b:Int) (E:List Int):Prop where
 lt:E.Pairwise (· < ·)
 ends:∃ t,E = a :: t
 last:∃ t,E = t ++ [b]
 mem:∀ i ∈ l,∀ p ∈ places i,a < p → p < b → p ∈ E
 len:E.length ≤ 6 * l.length + 2
theorem edges_ok (l:List S39) (a b:Int) (hab:a < b) (hl:l.length ≤ 1000):∃ E,raster_edges.f l a b = some E ∧ Edges l a b E:=by
 refine ⟨edg (raster_edges.raw l a b),by unfold raster_edges.f; rw [if_pos hl],?_⟩
 have hm:∀ x,x ∈ edg (raster_edges.raw l a b) ↔ x ∈ raster_edges.raw l a b:=edg_mem _
 have hlt:=edg_lt (raster_edges.raw l a b)
 have hr:∀ x,x ∈ raster_edges.raw l a b → a ≤ x ∧ x ≤ b:=by
  intro x hx
  unfold raster_edges.raw at hx
  simp only [List.mem_append,List.mem_cons,List.not_mem_nil,or_false,List.mem_flatMap,List.mem_filter,Bool.and_eq_true,decide_eq_true_eq] at hx
  rcases hx with (rfl | rfl) | ⟨_,_,_,h1,h2⟩
  ·omega
  ·omega
  ·omega
 have hin:a ∈ edg (raster_edges.raw l a b):=(hm a).2 (by simp [raster_edges.raw])
 have hib:b ∈ edg (raster_edges.raw l a b):=(hm b).2 (by simp [raster_edges.raw])
 have hlen:=Nat.le_trans (edg_len (raster_edges.raw l a b)) (raster_edges.raw_len l a b)
 refine ⟨hlt,?_,?_,?_,hlen⟩
 ·cases hE:edg (raster_edges.raw l a b) with
  | nil => rw [hE] at hin; cases hin
  | cons h t =>
   rw [hE] at hin hlt
   have h1:=hr h ((hm h).1 (by rw [hE]; simp))
   rcases List.mem_cons.1 hin with e | e
   ·exact ⟨t,by rw [e]⟩
   ·have:=List.rel_of_pairwise_cons hlt e
    omega
 ·rcases List.eq_nil_or_concat (edg (raster_edges.raw l a b)) with hE | ⟨t,z,hE⟩
  ·rw [hE] at hin; cases hin
  ·have hE':edg (raster_edges.raw l a b) = t ++ [z]:=by rw [hE,List.concat_eq_append]
   refine ⟨t,?_⟩
   rw [hE'] at hib hlt ⊢
   have h1:=hr z ((hm z).1 (by rw [hE']; simp))
   rcases List.mem_append.1 hib with e | e
   ·have:=(List.pairwise_append.1 hlt).2.2 b e z (by simp)
    omega
   ·rw [List.mem_singleton.1 e]
 ·intro i hi p hp h1 h2
  refine (hm p).2 ?_
  unfold raster_edges.raw
  refine List.mem_append_right _ (List.mem_flatMap.2 ⟨i,hi,List.mem_filter.2 ⟨hp,by simp [h1,h2]⟩⟩)
theorem own_const (l:List S39) (y e x:Int) (hex:e ≤ x) (h:∀ i ∈ l,∀ p ∈ places i,¬ (e < p ∧ p ≤ x)):ownr l x y = ownr l e y:=by
 unfold ownr
 have:∀ n,n ≤ l.length → ownAt l x y n = ownAt l e y n:=by
  intro n
  induction n with
  | zero => intro _; rfl
  | succ n ih =>
   intro hn
   unfold ownAt
   rw [ih (by omega)]
   have hi:l.getD n z39 ∈ l:=by rw [List.getD_eq_getElem?_getD,List.getElem?_eq_getElem (by omega)]; exact List.getElem_mem _
   have hp:=h _ hi
   generalize l.getD n z39 = i at hp
   unfold places at hp
   simp only [List.mem_cons,List.not_mem_nil,or_false,forall_eq_or_imp,forall_eq] at hp
   have hs2:shows i x y ↔ shows i e y:=by
    unfold shows has
    obtain ⟨h1,h2,h3,h4,h5,h6⟩:=hp
    constructor
    ·rintro ⟨h7,h8,h9⟩
     exact ⟨by omega,by omega,fun h10 h11 => h9 h10 (by omega)⟩
    ·rintro ⟨h7,h8,h9⟩
     exact ⟨by omega,by omega,fun h10 h11 => h9 h10 (by omega)⟩
   by_cases hs:shows i e y
   ·rw [if_pos hs,if_pos (hs2.2 hs)]
   ·rw [if_neg hs,if_neg (fun h => hs (hs2.1 h))]
 exact this l.length (Nat.le_refl _)
structure RunOK (l:List S39) (y a e:Int) (acc:List S56):Prop where
 b1:∀ r ∈ acc,a ≤ r.f0 ∧ r.f0 < r.f1 ∧ r.f1 ≤ e ∧ 0 ≤ r.f2 ∧ r.f2 < l.length
 ap:acc.Pairwise fun r s => r.f1 ≤ s.f0 ∧ (r.f1 = s.f0 → r.f2 ≠ s.f2)
 c1:∀ r ∈ acc,∀ x,r.f0 ≤ x → x < r.f1 → ownr l x y = some r.f2.toNat
 c2:∀ x,a ≤ x → x < e → ∀ n,ownr l x y = some n → ∃ r ∈ acc,r.f0 ≤ x ∧ x < r.f1
theorem RunOK.start (l:List S39) (y a:Int):RunOK l y a a []:=⟨by simp,List.Pairwise.nil,by simp,fun x h1 h2 => by omega⟩
theorem RunOK.none_ {l:List S39} {y a e e':Int} {acc:List S56} (h:RunOK l y a e acc) (he:e ≤ e') (hn:∀ x,e ≤ x → x < e' → ownr l x y = none):RunOK l y a e' acc :=
 ⟨fun r hr => by have:=h.b1 r hr; omega,h.ap,h.c1,fun x h1 h2 n hx => by
  rcases Int.lt_or_le x e with h3 | h3
  ·exact h.c2 x h1 h3 n hx
  ·rw [hn x h3 h2] at hx; cases hx⟩
theorem RunOK.snoc {l:List S39} {y a e e':Int} {acc:List S56} {n:Nat} (h:RunOK l y a e acc) (hae:a ≤ e) (he:e < e') (hnl:n < l.length) (hn:∀ x,e ≤ x → x < e' → ownr l x y = some n) (hlast:∀ r ∈ acc,r.f1 = e → r.f2 ≠ (n:Int)):RunOK l y a e' (acc ++ [⟨e,e',(n:Int)⟩]):=by
 refine ⟨?_,?_,?_,?_⟩
 ·intro r hr
  rcases List.mem_append.1 hr with hr | hr
  ·have:=h.b1 r hr; omega
  ·rw [List.mem_singleton.1 hr]; simp; omega
 ·rw [List.pairwise_append]
  refine ⟨h.ap,List.pairwise_singleton _ _,fun r hr s hs => ?_⟩
  rw [List.mem_singleton.1 hs]
  exact ⟨(h.b1 r hr).2.2.1,fun e1 => hlast r hr e1⟩
 ·intro r hr x h1 h2
  rcases List.mem_append.1 hr with hr | hr
  ·exact h.c1 r hr x h1 h2
  ·rw [List.mem_singleton.1 hr] at h1 h2 ⊢
   rw [hn x h1 h2]; simp
 ·intro x h1 h2 m hx
  rcases Int.lt_or_le x e with h3 | h3
  ·obtain ⟨r,hr,h4⟩:=h.c2 x h1 h3 m hx
   exact ⟨r,List.mem_append_left _ hr,h4⟩
  ·exact ⟨_,List.mem_append_right _ (List.mem_singleton.2 rfl),h3,h2⟩
theorem RunOK.more {l:List S39} {y a e e':Int} {init:List S56} {r:S56} {n:Nat} (h:RunOK l y a e (init ++ [r])) (he:e < e') (hn:∀ x,e ≤ x → x < e' → ownr l x y = some n) (h1:r.f1 = e) (h2:r.f2 = (n:Int)):RunOK l y a e' (init ++ [⟨r.f0,e',r.f2⟩]):=by
 have hr0:=h.b1 r (by simp)
 have hap:=List.pairwise_append.1 h.ap
 refine ⟨?_,?_,?_,?_⟩
 ·intro q hq
  rcases List.mem_append.1 hq with hq | hq
  ·have:=h.b1 q (List.mem_append_left _ hq); omega
  ·rw [List.mem_singleton.1 hq]; simp only; omega
 ·rw [List.pairwise_append]
  refine ⟨hap.1,List.pairwise_singleton _ _,fun q hq s hs => ?_⟩
  rw [List.mem_singleton.1 hs]
  exact hap.2.2 q hq r (by simp)
 ·intro q hq x h3 h4
  rcases List.mem_append.1 hq with hq | hq
  ·exact h.c1 q (List.mem_append_left _ hq) x h3 h4
  ·rw [List.mem_singleton.1 hq] at h3 h4 ⊢
   simp only at h3 h4 ⊢
   rcases Int.lt_or_le x e with h5 | h5
   ·exact h.c1 r (by simp) x h3 (by omega)
   ·rw [hn x h5 h4,h2]; simp
 ·intro x h3 h4 m hx
  rcases Int.lt_or_le x e with h5 | h5
  ·obtain ⟨q,hq,h6⟩:=h.c2 x h3 h5 m hx
   rcases List.mem_append.1 hq with hq | hq
   ·exact ⟨q,List.mem_append_left _ hq,h6⟩
   ·rw [List.mem_singleton.1 hq] at h6
    exact ⟨_,List.mem_append_right _ (List.mem_singleton.2 rfl),h6.1,by simp only; omega⟩
  ·exact ⟨_,List.mem_append_right _ (List.mem_singleton.2 rfl),by simp only; omega,h4⟩
theorem rdr_mid (l1:List S56) (x:S56) (l2:List S56):rd_T56 (l1 ++ x :: l2) (l1.length:Int) = x:=by unfold rd_T56; simp
theorem set_last {α:Type} (init:List α) (r s:α):(init ++ [r]).set init.length s = init ++ [s]:=by simp
theorem runs_l0 (l:List S39) (y a b:Int) (hl:l.length ≤ 1000) (E:List Int) (hE:Edges l a b E):∀ (E2 E1:List Int) (e:Int) (acc:List S56) (k:Nat),E1 ++ e :: E2 = E → RunOK l y a e acc → acc.length ≤ E1.length → l.length + E2.length < k →
  ∃ R,raster_Runs.l0 k l y acc E (E.take (E.length - 1)) ((E.length - 1:Nat):Int) (E1.length:Int) = some R ∧ RunOK l y a b R ∧ R.length ≤ E.length:=by
 have hElen:=hE.len
 intro E2
 induction E2 with
 | nil =>
  intro E1 e acc k h1 h2 h3 h4
  obtain ⟨k,rfl⟩:∃ m,k = m + 1:=⟨k - 1,by omega⟩
  simp only [raster_Runs.l0]
  have hl1:E.length - 1 = E1.length:=by rw [← h1]; simp
  rw [hl1,if_neg (by omega)]
  refine ⟨acc,rfl,?_,by omega⟩
  obtain ⟨t,ht⟩:=hE.last
  have:e = b:=by
   have h5:=h1.trans ht
   exact (List.append_inj' h5 rfl).2 |> List.singleton_inj.1
  rw [← this]
  exact h2
 | cons e' E2 ih =>
  intro E1 e acc k h1 h2 h3 h4
  obtain ⟨k,rfl⟩:∃ m,k = m + 1:=⟨k - 1,by omega⟩
  have hlen:E.length = E1.length + E2.length + 2:=by rw [← h1]; simp; omega
  have hpw:=hE.lt
  rw [← h1] at hpw
  have hee:e < e':=List.rel_of_pairwise_cons (List.pairwise_append.1 hpw).2.1 (by simp)
  have hae:a ≤ e:=by
   obtain ⟨t,ht⟩:=hE.ends
   cases E1 with
   | nil => rw [ht] at h1; simp at h1; omega
   | cons h0 E1 =>
    rw [ht] at h1
    simp only [List.cons_append,List.cons.injEq] at h1
    have:=(List.pairwise_append.1 hpw).2.2 h0 (by simp) e (by simp)
    omega
  have heb:e' ≤ b:=by
   obtain ⟨t,ht⟩:=hE.last
   have hb:b ∈ E:=by rw [ht]; simp
   have hp2:=hE.lt
   rw [ht] at hp2
   have he':e' ∈ t ++ [b]:=by rw [← ht,← h1]; simp
   rcases List.mem_append.1 he' with h5 | h5
   ·have:=(List.pairwise_append.1 hp2).2.2 e' h5 b (by simp); omega
   ·rw [List.mem_singleton.1 h5]; omega
  have hconst:∀ x,e ≤ x → x < e' → ownr l x y = ownr l e y:=by
   intro x h5 h6
   refine own_const l y e x h5 ?_
   rintro i hi p hp ⟨h7,h8⟩
   have hpE:p ∈ E:=hE.mem i hi p hp (by omega) (by omega)
   rw [← h1] at hpE
   rcases List.mem_append.1 hpE with h9 | h9
   ·have:=(List.pairwise_append.1 hpw).2.2 p h9 e (by simp); omega
   ·rcases List.mem_cons.1 h9 with h9 | h9
    ·omega
    ·have hp3:=(List.pairwise_append.1 hpw).2.1
     rw [List.pairwise_cons] at hp3
     rcases List.mem_cons.1 h9 with h10 | h10
     ·omega
     ·have:=List.rel_of_pairwise_cons hp3.2 h10; omega
  have ht:E.take (E.length - 1) = E1 ++ e :: (e' :: E2).take E2.length:=by
   rw [hlen,← h1,List.take_append]
   rw [List.take_of_length_le (by omega),show E1.length + E2.length + 2 - 1 - E1.length = E2.length + 1 by omega]
   rfl
  have hr1:rd (E.take (E.length - 1)) (E1.length:Int) = e:=by rw [ht]; exact rd_mid_i _ _ _
  have hw:wrap64 ((E1.length:Int) + 1) = ((E1 ++ [e]).length:Int):=by rw [w64 (by omega) (by omega)]; simp
  have hr2:rd E (((E1 ++ [e]).length:Nat):Int) = e':=by
   rw [← h1,show E1 ++ e :: e' :: E2 = (E1 ++ [e]) ++ e' :: E2 by simp]
   exact rd_mid_i _ _ _
  have htl:(E.take (E.length - 1)).length = E.length - 1:=by rw [List.length_take]; omega
  have ih':=fun acc h2 h3 => ih (E1 ++ [e]) e' acc k (by rw [← h1]; simp) h2 h3 (by simp at h4; omega)
  have hn1:((E1 ++ [e]).length:Int) = E1.length + 1:=by simp
  simp only [raster_Runs.l0]
  rw [if_pos (by omega),if_pos (by omega),if_pos (by rw [htl]; omega),hr1,hw,of_eq l e y k (by simp at h4; omega) (by omega),hr2]
  simp only [Option.bind_some]
  cases ho:ownr l e y with
  | none =>
   simp only [Bool.false_eq_true,if_false]
   exact ih' acc (h2.none_ (by omega) (fun x h5 h6 => by rw [hconst x h5 h6,ho])) (by simp; omega)
  | some n =>
   have hnl:=ownr_lt ho
   have hc:∀ x,e ≤ x → x < e' → ownr l x y = some n:=fun x h5 h6 => by rw [hconst x h5 h6,ho]
   simp only [if_true]
   rcases List.eq_nil_or_concat acc with rfl | ⟨init,r,hacc⟩
   ·rw [if_neg (by unfold wrap64; simp only [List.length_nil]; omega),if_pos (by omega),if_pos (by omega),if_pos (by simp)]
    exact ih' _ (h2.snoc hae hee hnl hc (by simp)) (by simp)
   ·have hacc':acc = init ++ [r]:=by rw [hacc,List.concat_eq_append]
    subst hacc'
    have hil:wrap64 (((init ++ [r]).length:Int) - 1) = (init.length:Int):=by simp only [List.length_append,List.length_singleton] at h3 ⊢; rw [w64 (by omega) (by omega)]; omega
    have hrr:rd_T56 (init ++ [r]) (init.length:Int) = r:=rdr_mid init r []
    rw [hil,if_pos (by omega),if_pos (by omega),if_pos (by simp only [List.length_append,List.length_singleton]; omega),hrr]
    have hsnoc:(∀ q ∈ init ++ [r],q.f1 = e → q.f2 ≠ (n:Int)) → _:=fun hq => ih' _ (h2.snoc hae hee hnl hc hq) (by simp only [List.length_append,List.length_singleton] at h3 ⊢; omega)
    have hinit:∀ q ∈ init,q.f1 < e:=by
     intro q hq
     have h5:=(List.pairwise_append.1 h2.ap).2.2 q hq r (by simp)
     have h6:=h2.b1 r (by simp)
     omega
    by_cases hf2:r.f2 = (n:Int)
    ·rw [if_pos hf2]
     by_cases hf1:r.f1 = e
     ·rw [if_pos hf1,if_pos (by omega),if_pos (by omega),Int.toNat_natCast,set_last]
      exact ih' _ (h2.more hee hc hf1 hf2) (by simp only [List.length_append,List.length_singleton] at h3 ⊢; omega)
     ·rw [if_neg hf1,if_pos (by omega),if_pos (by omega),if_pos (by simp only [List.length_append,List.length_singleton] at h3 ⊢; omega)]
      refine hsnoc ?_
      intro q hq h5
      rcases List.mem_append.1 hq with hq | hq
      ·have:=hinit q hq; omega
      ·rw [List.mem_singleton.1 hq] at h5; exact absurd h5 hf1
    ·rw [if_neg hf2,if_pos (by omega),if_pos (by omega),if_pos (by simp only [List.length_append,List.length_singleton] at h3 ⊢; omega)]
     refine hsnoc ?_
     intro q hq h5
     rcases List.mem_append.1 hq with hq | hq
     ·have:=hinit q hq; omega
     ·rw [List.mem_singleton.1 hq]; exact hf2
theorem runs_f (l:List S39) (y a b:Int) (hl:l.length ≤ 1000) (hab:a < b) (k:Nat) (hk:7 * l.length + 4 < k):∃ R,raster_Runs.f k l y a b = some R ∧ RunOK l y a b R ∧ R.length ≤ 6 * l.length + 2:=by
 obtain ⟨E,he,hE⟩:=edges_ok l a b hab hl
 unfold raster_Runs.f
 rw [if_neg (by omega),he]
 simp only [Option.bind_some]
 have hElen:=hE.len
 obtain ⟨t,ht⟩:=hE.ends
 have hpos:1 ≤ E.length:=by rw [ht]; simp
 have hw:wrap64 ((E.length:Int) - 1) = ((E.length - 1:Nat):Int):=by rw [w64 (by omega) (by omega)]; omega
 have htl:(E.take (E.length - 1)).length = E.length - 1:=by rw [List.length_take]; omega
 rw [hw,if_pos (by omega),if_pos (by omega),Int.toNat_natCast,htl]
 have htl2:t.length = E.length - 1:=by rw [ht]; simp
 obtain ⟨R,h1,h2,h3⟩:=runs_l0 l y a b hl E hE t [] a [] k (by simp [ht]) (RunOK.start l y a) (by simp) (by omega)
 exact ⟨R,h1,h2,by omega⟩
def okG (X Y S W H:Int):Prop:=1 ≤ W ∧ 1 ≤ H ∧ W ≤ 4096 ∧ H ≤ 4096 ∧ W * H ≤ 4096 ∧ 1 ≤ S ∧ S ≤ 1099511627776 ∧ -1099511627776 ≤ X ∧ X ≤ 1099511627776 ∧ -1099511627776 ≤ Y ∧ Y ≤ 1099511627776
instance (X Y S W H:Int):Decidable (okG X Y S W H):=by unfold okG; exact inferInstance
theorem within_eq (n:Int):raster_within.f n 1099511627776 = some (decide (-1099511627776 ≤ n ∧ n ≤ 1099511627776)):=by
 unfold raster_within.f
 rw [show wrap64 (-1099511627776) = -1099511627776 from by unfold wrap64; omega]
 by_cases h1:n ≥ -1099511627776
 ·rw [if_pos h1]; simp [show -1099511627776 ≤ n from h1]
 ·rw [if_neg h1]; simp [show ¬ -1099511627776 ≤ n from h1]
theorem wh_le {W H:Int} (h1:1 ≤ W) (h2:1 ≤ H) (h3:W ≤ 4096) (h4:H ≤ 4096):1 ≤ W * H ∧ W * H ≤ 16777216:=by
 constructor
 ·have:=Int.mul_le_mul h1 h2 (by omega) (by omega); omega
 ·have:=Int.mul_le_mul h3 h4 (by omega) (by omega); omega
theorem right_eq (X Y S W H:Int) (k:Nat) (hk:0 < k):raster_Grid_right.f k X Y S W H = some (decide (okG X Y S W H)):=by
 obtain ⟨k,rfl⟩:∃ m,k = m + 1:=⟨k - 1,by omega⟩
 unfold raster_Grid_right.f okG
 by_cases h1:W < 1
 ·rw [if_pos h1]; simp only [raster_Grid_right.j0,if_true]; simp [show ¬ 1 ≤ W by omega]
 rw [if_neg h1]
 by_cases h2:H < 1
 ·rw [if_pos h2]; simp only [raster_Grid_right.j0,if_true]; simp [show ¬ 1 ≤ H by omega]
 rw [if_neg h2]
 by_cases h3:W > 4096
 ·rw [if_pos h3]; simp only [raster_Grid_right.j0,if_true]; simp [show ¬ W ≤ 4096 by omega]
 rw [if_neg h3]
 by_cases h4:H > 4096
 ·rw [if_pos h4]; simp only [raster_Grid_right.j0,if_true]; simp [show ¬ H ≤ 4096 by omega]
 rw [if_neg h4]
 have h5:=wh_le (W:=W) (H:=H) (by omega) (by omega) (by omega) (by omega)
 rw [w64 (by omega) (by omega)]
 simp only [raster_Grid_right.j0]
 by_cases h6:W * H > 4096
 ·rw [if_pos (by simpa using h6)]; simp [show ¬ W * H ≤ 4096 by omega]
 rw [if_neg (by simpa using h6),within_eq,within_eq]
 simp only [Option.bind_some]
 by_cases h7:S ≥ 1 <;> by_cases h8:S ≤ 1099511627776 <;> by_cases h9:-1099511627776 ≤ X ∧ X ≤ 1099511627776 <;> by_cases h10:-1099511627776 ≤ Y ∧ Y ≤ 1099511627776 <;> simp [h7,h8,h9,h10,show 1 ≤ W by omega,show 1 ≤ H by omega,show W ≤ 4096 by omega,show H ≤ 4096 by omega,show W * H ≤ 4096 by omega] <;> omega
def colr (l:List S39) (x y:Int):Int:=match ownr l x y with | some m => (l.getD m z39).f5 | none => 0
def picRow (l:List S39) (X S:Int) (W:Nat) (y:Int):List Int:=(List.range W).map fun (j:Nat) => colr l (X + (j:Int) * S) y
def pic (l:List S39) (X Y S:Int) (W n:Nat):List Int:=(List.range n).flatMap fun (i:Nat) => picRow l X S W (Y + (i:Int) * S)
theorem pic_succ (l:List S39) (X Y S:Int) (W n:Nat):pic l X Y S W (n + 1) = pic l X Y S W n ++ picRow l X S W (Y + (n:Int) * S):=by
 unfold pic
 rw [List.range_succ,List.flatMap_append]
 simp
theorem pic_len (l:List S39) (X Y S:Int) (W n:Nat):(pic l X Y S W n).length = n * W:=by
 induction n with
 | zero => simp [pic]
 | succ n ih => rw [pic_succ,List.length_append,ih,Nat.succ_mul]; simp [picRow]
theorem set_rm (W:Nat) (g:Nat → Int) (c:Nat) (v:Int):((List.range W).map g).set c v = (List.range W).map fun j => if j = c then v else g j:=by
 apply List.ext_getElem (by simp)
 intro j h1 h2
 simp only [List.getElem_set,List.getElem_map,List.getElem_range]
 by_cases h:c = j
 ·simp [h]
 ·simp [h,Ne.symm h]
theorem rm_congr (W:Nat) (g g':Nat → Int) (h:∀ j,j < W → g j = g' j):(List.range W).map g = (List.range W).map g':=List.map_congr_left fun j hj => h j (by simpa using hj)
theorem js_le {S:Int} (hS:1 ≤ S) (hS2:S ≤ 1099511627776) {a b:Nat} (h:a ≤ b) (hb:b ≤ 4096):0 ≤ (a:Int) * S ∧ (a:Int) * S ≤ (b:Int) * S ∧ (b:Int) * S ≤ 4503599627370496:=by
 refine ⟨Int.mul_nonneg (by omega) (by omega),Int.mul_le_mul_of_nonneg_right (by omega) (by omega),?_⟩
 have:=Int.mul_le_mul (a:=(b:Int)) (b:=S) (c:=4096) (d:=1099511627776) (by omega) hS2 (by omega) (by omega)
 omega
def fillc (X S f1 col:Int) (g:Nat → Int) (c:Nat):Nat → Int:=fun j => if c ≤ j ∧ X + (j:Int) * S < f1 then col else g j
set_option maxHeartbeats 2000000 in
theorem draw_l2 (l:List S39) (x6:List Int) (X Y S:Int) (W:Nat) (H row:Int) (R:List S56) (n44 n45 f0 f1 f2 H2:Int) (hS:1 ≤ S) (hS2:S ≤ 1099511627776) (hX:-1099511627776 ≤ X ∧ X ≤ 1099511627776) (hW:W ≤ 4096) (hf:0 ≤ f2 ∧ f2 < l.length) (r:List Int × Int) :
  ∀ (d c:Nat),c + d = W → ∀ g:Nat → Int,Ev (fun k => raster_Draw.l1 k l x6 ((List.range W).map (fillc X S f1 (rd_T39 l f2).f5 g c)) H row R n44 (wrap64 (n45 + 1)) X Y S (W:Int) H2) r →
   Ev (fun k => raster_Draw.l2 k l x6 ((List.range W).map g) (c:Int) H row R n44 n45 X Y S (W:Int) H2 f0 f1 f2) r:=by
 intro d
 induction d with
 | zero =>
  intro c hc g h
  obtain ⟨K,hK⟩:=h
  refine ⟨K + 1,fun k hk => ?_⟩
  obtain ⟨k,rfl⟩:∃ m,k = m + 1:=⟨k - 1,by omega⟩
  simp only [raster_Draw.l2]
  rw [if_neg (by omega),rm_congr W g (fillc X S f1 (rd_T39 l f2).f5 g c) (fun j hj => by unfold fillc; rw [if_neg (by omega)])]
  exact hK k (by omega)
 | succ d ih =>
  intro c hc g h
  have hj:=js_le hS hS2 (a:=c) (b:=W) (by omega) hW
  by_cases h1:X + (c:Int) * S < f1
  ·have h':=ih (c + 1) (by omega) (fun j => if j = c then (rd_T39 l f2).f5 else g j) (by
    rw [rm_congr W _ (fillc X S f1 (rd_T39 l f2).f5 g c) (fun j hj => by
     unfold fillc
     dsimp only
     by_cases e:j = c
     ·subst e; rw [if_neg (by omega),if_pos rfl,if_pos ⟨by omega,h1⟩]
     ·rw [if_neg e]
      by_cases e2:c + 1 ≤ j ∧ X + (j:Int) * S < f1
      ·rw [if_pos e2,if_pos ⟨by omega,e2.2⟩]
      ·rw [if_neg e2,if_neg (fun e3 => e2 ⟨by omega,e3.2⟩)])]
    exact h)
   obtain ⟨K,hK⟩:=h'
   refine ⟨K + 1,fun k hk => ?_⟩
   obtain ⟨k,rfl⟩:∃ m,k = m + 1:=⟨k - 1,by omega⟩
   have e1:wrap64 ((c:Int) * S) = (c:Int) * S:=w64 (by omega) (by omega)
   have e2:wrap64 (X + (c:Int) * S) = X + (c:Int) * S:=w64 (by omega) (by omega)
   have e3:wrap64 ((c:Int) + 1) = ((c + 1:Nat):Int):=by rw [w64 (by omega) (by omega)]; omega
   simp only [raster_Draw.l2]
   have q1:(c:Int) < (W:Int):=by omega
   have q2:(c:Int) < (((List.range W).map g).length:Int):=by rw [List.length_map,List.length_range]; exact q1
   rw [if_pos q1,e1,e2,if_pos h1,if_pos hf.1,if_pos hf.2,if_pos (Int.natCast_nonneg c),if_pos q2,e3,Int.toNat_natCast,set_rm]
   exact hK k (by omega)
  ·obtain ⟨K,hK⟩:=h
   refine ⟨K + 1,fun k hk => ?_⟩
   obtain ⟨k,rfl⟩:∃ m,k = m + 1:=⟨k - 1,by omega⟩
   have e1:wrap64 ((c:Int) * S) = (c:Int) * S:=w64 (by omega) (by omega)
   have e2:wrap64 (X + (c:Int) * S) = X + (c:Int) * S:=w64 (by omega) (by omega)
   simp only [raster_Draw.l2]
   have q1:(c:Int) < (W:Int):=by omega
   rw [if_pos q1,e1,e2,if_neg h1,rm_congr W g (fillc X S f1 (rd_T39 l f2).f5 g c) (fun j hj => by
    unfold fillc
    rw [if_neg]
    rintro ⟨h2,h3⟩
    have:=js_le hS hS2 (a:=c) (b:=j) h2 (by omega)
    omega)]
   exact hK k (by omega)
theorem ceil_le {d S:Int} (hd:0 ≤ d) (hS:1 ≤ S) (j:Int):(d + S - 1) / S ≤ j ↔ d ≤ j * S:=by
 have h1:=Int.emod_add_mul_ediv (d + S - 1) S
 have h2:=Int.emod_nonneg (d + S - 1) (show S ≠ 0 by omega)
 have h3:=Int.emod_lt_of_pos (d + S - 1) (show 0 < S by omega)
 generalize (d + S - 1) / S = q at h1 ⊢
 constructor
 ·intro h
  have:=Int.mul_le_mul_of_nonneg_left h (show 0 ≤ S by omega)
  rw [Int.mul_comm j S]
  omega
 ·intro h
  rcases Int.lt_or_le j q with h4 | h4
  ·exfalso
   have:=Int.mul_le_mul_of_nonneg_left (show j + 1 ≤ q by omega) (show 0 ≤ S by omega)
   rw [Int.mul_add,Int.mul_comm S j] at this
   omega
  ·exact h4
def inRun (R:List S56) (p:Int):Bool:=R.any fun r => decide (r.f0 ≤ p) && decide (p < r.f1)
def lineR (l:List S39) (X S y:Int) (R:List S56):Nat → Int:=fun j => if inRun R (X + (j:Int) * S) = true then colr l (X + (j:Int) * S) y else 0
set_option maxHeartbeats 2000000 in
theorem draw_l1 (l:List S39) (x6:List Int) (X Y S y:Int) (W:Nat) (H row:Int) (R:List S56) (H2:Int) (hS:1 ≤ S) (hS2:S ≤ 1099511627776) (hX:-1099511627776 ≤ X ∧ X ≤ 1099511627776) (hW:W ≤ 4096) (hR:RunOK l y X (X + (W:Int) * S) R) (hRl:R.length ≤ 1000000) (h6:x6.length ≤ 100000000) (r:List Int × Int)
  (h:Ev (fun k => raster_Draw.l0 k l (x6 ++ (List.range W).map (lineR l X S y R)) H (wrap64 (row + 1)) X Y S (W:Int) H2) r) :
  ∀ (R2 R1:List S56),R1 ++ R2 = R → Ev (fun k => raster_Draw.l1 k l x6 ((List.range W).map (lineR l X S y R1)) H row R (R.length:Int) (R1.length:Int) X Y S (W:Int) H2) r:=by
 intro R2
 induction R2 with
 | nil =>
  intro R1 h1
  obtain rfl:R1 = R:=by simpa using h1
  obtain ⟨K,hK⟩:=h
  refine ⟨K + 1,fun k hk => ?_⟩
  obtain ⟨k,rfl⟩:∃ m,k = m + 1:=⟨k - 1,by omega⟩
  simp only [raster_Draw.l1]
  rw [if_neg (by omega),if_pos (by simp; omega)]
  exact hK k (by omega)
 | cons q R2 ih =>
  intro R1 h1
  have hq:q ∈ R:=by rw [← h1]; simp
  have hb:=hR.b1 q hq
  have hWS:=js_le hS hS2 (a:=0) (b:=W) (by omega) hW
  have hd:0 ≤ q.f0 - X:=by omega
  have hc:=fun j => ceil_le hd hS j
  have hc0:0 ≤ (q.f0 - X + S - 1) / S:=Int.ediv_nonneg (by omega) (by omega)
  obtain ⟨c,hcn⟩:=Int.eq_ofNat_of_zero_le hc0
  have hcW:c ≤ W:=by have:=(hc (W:Int)).2 (by omega); omega
  have ih':=ih (R1 ++ [q]) (by rw [← h1]; simp)
  have hmem:∀ j:Nat,c ≤ j ↔ q.f0 ≤ X + (j:Int) * S:=by
   intro j
   have:=hc (j:Int)
   rw [hcn] at this
   constructor
   ·intro h2; have:=this.1 (by omega); omega
   ·intro h2; have:=this.2 (by omega); omega
  have hstep:=draw_l2 l x6 X Y S W H row R (R.length:Int) (R1.length:Int) q.f0 q.f1 q.f2 H2 hS hS2 hX hW hb.2.2.2 r (W - c) c (by omega) (lineR l X S y R1) (by
   have e3:wrap64 ((R1.length:Int) + 1) = ((R1 ++ [q]).length:Int):=by
    have:R1.length + (q :: R2).length = R.length:=by rw [← h1]; simp
    simp at this ⊢
    rw [w64 (by omega) (by omega)]
   rw [e3,rm_congr W _ (lineR l X S y (R1 ++ [q])) (fun j hj => by
    unfold fillc lineR inRun
    rw [List.any_append]
    by_cases h2:c ≤ j ∧ X + (j:Int) * S < q.f1
    ·have h3:=(hmem j).1 h2.1
     rw [if_pos h2,if_pos (by simp [h2.2,h3])]
     have h4:=hR.c1 q hq _ h3 h2.2
     unfold colr
     rw [h4]
     unfold rd_T39
     rfl
    ·rw [if_neg h2]
     have h3:¬ (q.f0 ≤ X + (j:Int) * S ∧ X + (j:Int) * S < q.f1):=fun h3 => h2 ⟨(hmem j).2 h3.1,h3.2⟩
     have h4:([q].any fun r => decide (r.f0 ≤ X + (j:Int) * S) && decide (X + (j:Int) * S < r.f1)) = false:=by
      rw [List.any_cons,List.any_nil,Bool.or_false]
      by_cases g1:q.f0 ≤ X + (j:Int) * S
      ·simp [g1,show ¬ X + (j:Int) * S < q.f1 from fun g2 => h3 ⟨g1,g2⟩]
      ·simp [g1]
     rw [h4,Bool.or_false])]
   exact ih')
  obtain ⟨K,hK⟩:=hstep
  refine ⟨K + 1,fun k hk => ?_⟩
  obtain ⟨k,rfl⟩:∃ m,k = m + 1:=⟨k - 1,by omega⟩
  simp only [raster_Draw.l1]
  have hrr:rd_T56 R (R1.length:Int) = q:=by rw [← h1]; exact rdr_mid _ _ _
  have hlen:R1.length + (q :: R2).length = R.length:=by rw [← h1]; simp
  simp only [List.length_cons] at hlen
  have e1:wrap64 (q.f0 - X) = q.f0 - X:=w64 (by omega) (by omega)
  have e2:wrap64 (q.f0 - X + S) = q.f0 - X + S:=w64 (by omega) (by omega)
  have e3:wrap64 (q.f0 - X + S - 1) = q.f0 - X + S - 1:=w64 (by omega) (by omega)
  have e4:Int.tdiv (q.f0 - X + S - 1) S = (c:Int):=by rw [Int.tdiv_eq_ediv_of_nonneg (by omega)]; exact hcn
  have e5:wrap64 (c:Int) = (c:Int):=w64 (by omega) (by omega)
  rw [if_pos (by omega),if_pos (by omega),if_pos (by omega),if_neg (by omega),hrr,e1,e2,e3,e4,e5]
  exact hK k (by omega)
theorem line_row (l:List S39) (X S y:Int) (W:Nat) (R:List S56) (hS:1 ≤ S) (hS2:S ≤ 1099511627776) (hW:W ≤ 4096) (hR:RunOK l y X (X + (W:Int) * S) R):(List.range W).map (lineR l X S y R) = picRow l X S W y:=by
 unfold picRow
 refine rm_congr W _ _ fun j hj => ?_
 unfold lineR
 by_cases h:inRun R (X + (j:Int) * S) = true
 ·rw [if_pos h]
 ·rw [if_neg h]
  unfold colr
  cases ho:ownr l (X + (j:Int) * S) y with
  | none => rfl
  | some n =>
   exfalso
   have h1:=js_le hS hS2 (a:=j) (b:=W) (by omega) hW
   have h2:(j:Int) * S < (W:Int) * S:=by
    have:=Int.mul_le_mul_of_nonneg_right (show (j:Int) + 1 ≤ (W:Int) by omega) (show 0 ≤ S by omega)
    rw [Int.add_mul] at this
    omega
   obtain ⟨q,hq,h3,h4⟩:=hR.c2 (X + (j:Int) * S) (by omega) (by omega) n ho
   exact h (List.any_eq_true.2 ⟨q,hq,by simp [h3,h4]⟩)
set_option maxHeartbeats 2000000 in
theorem draw_l0 (l:List S39) (X Y S:Int) (W H:Nat) (hl:l.length ≤ 1000) (hG:okG X Y S (W:Int) (H:Int)):∀ (d n:Nat),n + d = H → Ev (fun k => raster_Draw.l0 k l (pic l X Y S W n) (H:Int) (n:Int) X Y S (W:Int) (H:Int)) (pic l X Y S W H,0):=by
 obtain ⟨g1,g2,g3,g4,g5,g6,g7,g8,g9,g10,g11⟩:=hG
 intro d
 induction d with
 | zero =>
  intro n hn
  obtain rfl:n = H:=by omega
  refine ⟨1,fun k hk => ?_⟩
  obtain ⟨k,rfl⟩:∃ m,k = m + 1:=⟨k - 1,by omega⟩
  simp only [raster_Draw.l0]
  rw [if_neg (by omega)]
 | succ d ih =>
  intro n hn
  have hn':=js_le g6 g7 (a:=n) (b:=H) (by omega) (by omega)
  have hW':=js_le g6 g7 (a:=1) (b:=W) (by omega) (by omega)
  obtain ⟨R,hRf,hR,hRl⟩:=runs_f l (Y + (n:Int) * S) X (X + (W:Int) * S) hl (by omega) (7 * l.length + 5) (by omega)
  have hEv:=Ev.of (fun k => raster_Runs.mono l (Y + (n:Int) * S) X (X + (W:Int) * S) k) hRf
  have hrow:=line_row l X S (Y + (n:Int) * S) W R g6 g7 (by omega) hR
  have hpl:=pic_len l X Y S W n
  have hnW:n * W ≤ 4096 * 4096:=Nat.mul_le_mul (by omega) (by omega)
  have ih':=ih (n + 1) (by omega)
  rw [pic_succ,← hrow] at ih'
  have e3:wrap64 ((n:Int) + 1) = ((n + 1:Nat):Int):=by rw [w64 (by omega) (by omega)]; omega
  rw [← e3] at ih'
  obtain ⟨K1,hK1⟩:=draw_l1 l (pic l X Y S W n) X Y S (Y + (n:Int) * S) W (H:Int) (n:Int) R (H:Int) g6 g7 ⟨g8,g9⟩ (by omega) hR (by omega) (by omega) _ ih' R [] rfl
  obtain ⟨K2,hK2⟩:=hEv
  refine ⟨K1 + K2 + 1,fun k hk => ?_⟩
  obtain ⟨k,rfl⟩:∃ m,k = m + 1:=⟨k - 1,by omega⟩
  have hRk:raster_Runs.f k l (Y + (n:Int) * S) X (X + (W:Int) * S) = some R:=hK2 k (by omega)
  simp only [raster_Draw.l0]
  have e1:wrap64 ((n:Int) * S) = (n:Int) * S:=w64 (by omega) (by omega)
  have e2:wrap64 (Y + (n:Int) * S) = Y + (n:Int) * S:=w64 (by omega) (by omega)
  have e4:wrap64 ((W:Int) * S) = (W:Int) * S:=w64 (by omega) (by omega)
  have e5:wrap64 (X + (W:Int) * S) = X + (W:Int) * S:=w64 (by omega) (by omega)
  rw [if_pos (by omega),if_pos (by omega),if_pos (by omega),e1,e2,e4,e5,hRk]
  simp only [Option.bind_some]
  have hz:List.replicate ((W:Int)).toNat (0:Int) = (List.range W).map (lineR l X S (Y + (n:Int) * S) []):=by
   rw [Int.toNat_natCast]
   apply List.ext_getElem (by simp)
   intro j h1 h2
   simp [lineR,inRun]
  rw [hz]
  exact hK1 k (by omega)
theorem draw_ok (l:List S39) (X Y S W H:Int) (hl:l.length ≤ 1000) (hG:okG X Y S W H):Ev (fun k => raster_Draw.f k l X Y S W H) (pic l X Y S W.toNat H.toNat,0):=by
 have hG':=hG
 obtain ⟨g1,g2,g3,g4,g5,g6,g7,g8,g9,g10,g11⟩:=hG'
 have eW:W = (W.toNat:Int):=by omega
 have eH:H = (H.toNat:Int):=by omega
 obtain ⟨K,hK⟩:=draw_l0 l X Y S W.toNat H.toNat hl (by rw [← eW,← eH]; exact hG) H.toNat 0 (by omega)
 rw [← eW,← eH] at hK
 refine ⟨K + 1,fun k hk => ?_⟩
 show raster_Draw.f k l X Y S W H = _
 unfold raster_Draw.f
 rw [right_eq X Y S W H k (by omega)]
 simp only [Option.bind_some]
 rw [if_pos (by simpa using hG)]
 exact hK k (by omega)
theorem draw_bad (l:List S39) (X Y S W H:Int) (hG:¬ okG X Y S W H) (k:Nat) (hk:0 < k):raster_Draw.f k l X Y S W H = some ([],1):=by
 unfold raster_Draw.f
 rw [right_eq X Y S W H k hk]
 simp only [Option.bind_some]
 rw [if_neg (by simpa using hG)]
theorem rright_eq (X Y S W H:Int):decoupageref28_Right.f X Y S W H = some (decide (okG X Y S W H)):=by
 unfold decoupageref28_Right.f okG
 by_cases h1:W < 1
 ·rw [if_pos h1]; simp [show ¬ 1 ≤ W by omega]
 rw [if_neg h1]
 by_cases h2:H < 1
 ·rw [if_pos h2]; simp [show ¬ 1 ≤ H by omega]
 rw [if_neg h2]
 by_cases h3:W > 4096
 ·rw [if_pos h3]; simp [show ¬ W ≤ 4096 by omega]
 rw [if_neg h3,if_neg (by omega)]
 have e1:Int.tdiv 4096 W = 4096 / W:=Int.tdiv_eq_ediv_of_nonneg (by omega)
 have e2:H ≤ 4096 / W ↔ H * W ≤ 4096:=Int.le_ediv_iff_mul_le (by omega)
 have e3:4096 / W ≤ 4096:=Int.ediv_le_self _ (by omega)
 have e4:0 ≤ 4096 / W:=Int.ediv_nonneg (by omega) (by omega)
 rw [e1,w64 (by omega) (by omega)]
 rw [Int.mul_comm] at e2
 by_cases h6:H > 4096 / W
 ·rw [if_pos h6]; simp [show ¬ W * H ≤ 4096 by omega]
 rw [if_neg h6]
 have h7:W * H ≤ 4096:=by omega
 by_cases g1:S ≥ 1 <;> by_cases g2:S ≤ 1099511627776 <;> by_cases g3:-1099511627776 ≤ X <;> by_cases g4:X ≤ 1099511627776 <;> by_cases g5:-1099511627776 ≤ Y <;> by_cases g6:Y ≤ 1099511627776 <;> simp [g1,g2,g3,g4,g5,g6,h7,show 1 ≤ W by omega,show 1 ≤ H by omega,show W ≤ 4096 by omega,show H ≤ 4096 by omega] <;> omega
theorem rcolor_eq (l:List S39) (x y:Int) (k:Nat) (hk:l.length < k) (hl:l.length ≤ 1000):decoupageref26_Color.f k l x y = some (colr l x y):=by
 unfold decoupageref26_Color.f
 rw [rown_eq l x y k hk (by omega)]
 simp only [Option.bind_some]
 unfold colr
 cases h:ownr l x y with
 | none => simp [ownI]
 | some m =>
  have:=ownr_lt h
  rw [show ownI (some m) = (m:Int) from rfl,if_neg (by omega),if_pos (by omega),if_pos (by omega),rdi]
theorem harm_len (a b:List S39) (ha:a.length + b.length ≤ 90):(harm a b).length ≤ 40000:=by
 have h1:=midA_len a b
 have h2:=midA_len b a
 rw [← midB_eq] at h2
 exact join_len _ (by simp; omega)
end Go.Proofs.Ytppklhfiajjhmaa.Pure
end
