/- What is proved: a region that draws its order, carried out on the small memory in the text's order, does what the machine does in any order. Conditions: none but those in each statement. -/
import Derived.Test.YtppklhfiajjhmaaZRasterShiftsY6
namespace Go.Proofs.Ytppklhfiajjhmaa.Y
open Go Go.RowKit
set_option linter.unusedVariables false
set_option linter.unusedSimpArgs false
def xgo (P : Program) (E : Eqs) (C : Ctx) (ops : Array Oper) : Nat → List Oper → List MV → Mem → List Rec → (List MV → Mem → List Rec → Option Out) → Option Out
  | _, [], tm, m, acc, k => k tm m acc
  | b0, o :: rest, tm, m, acc, k => xoneD P E C ops b0 o tm m (fun tm q => fl (put tm q.dst q.v) (fun tm => fl (setW m q.wr) (fun m => fl (acc ++ [q]) (fun acc => xgo P E C ops (b0 + 1) rest tm m acc k))))
def xdraw (P : Program) (E : Eqs) (C : Ctx) (ops : Array Oper) (tm : List MV) (m : Mem) (k : KS) : Option Out :=
  bif edgesOk ops.toList 0 then xgo P E C ops m.length ops.toList tm (m ++ List.replicate ops.toList.length none) [] (fun tm' m' qs => bif chk (befs ops.toList []) (m ++ List.replicate ops.toList.length none) qs then k tm' m' else none) else none
section
variable {P : Program} {E : Eqs} {C : Ctx} {base : Bs} {w0 : World}
theorem xgo_ok (hE : EqOk P E) (hC : COk P C) {ops : Array Oper} {k : List MV → Mem → List Rec → Option Out} {r : Out} : ∀ (l : List Oper) (b0 : Nat) (tm : List MV) (m : Mem) (acc : List Rec), xgo P E C ops b0 l tm m acc k = some r →
    ∃ qs : List Rec, qs.length = l.length ∧ k (tmF qs 0 (fun _ => true) tm) (mF qs 0 (fun _ => true) m) (acc ++ qs) = some r ∧
      ∀ p o q, l[p]? = some o → qs[p]? = some q → Stepper P C.env ops o (tmF qs 0 (fun j => decide (j < p)) tm) (mF qs 0 (fun j => decide (j < p)) m) q
  | [], b0, tm, m, acc, h => ⟨[], rfl, by simpa [xgo, tmF, mF] using h, by intro p o q ho; simp at ho⟩
  | o :: l, b0, tm, m, acc, h => by
    simp only [xgo, fl_eq] at h
    obtain ⟨q, h1, h2⟩ := xoneD_ok hE hC h
    obtain ⟨qs, g1, g2, g3⟩ := xgo_ok hE hC l (b0 + 1) _ _ _ h1
    have shiftT : ∀ (qs : List Rec) (i : Nat) (D D' : Nat → Bool) (tm : List MV), (∀ j, D' (i + 1 + j) = D (i + j)) → tmF qs (i + 1) D' tm = tmF qs i D tm := by
      intro qs
      induction qs with
      | nil => intros; rfl
      | cons q qs ih =>
        intro i D D' tm hD
        simp only [tmF]
        have e0 := hD 0
        simp only [Nat.add_zero] at e0
        rw [e0]
        exact ih (i + 1) D D' _ (fun j => by have := hD (j + 1); rwa [show i + 1 + (j + 1) = i + 1 + 1 + j by omega, show i + (j + 1) = i + 1 + j by omega] at this)
    have shiftM : ∀ (qs : List Rec) (i : Nat) (D D' : Nat → Bool) (m : Mem), (∀ j, D' (i + 1 + j) = D (i + j)) → mF qs (i + 1) D' m = mF qs i D m := by
      intro qs
      induction qs with
      | nil => intros; rfl
      | cons q qs ih =>
        intro i D D' m hD
        simp only [mF]
        have e0 := hD 0
        simp only [Nat.add_zero] at e0
        rw [e0]
        exact ih (i + 1) D D' _ (fun j => by have := hD (j + 1); rwa [show i + 1 + (j + 1) = i + 1 + 1 + j by omega, show i + (j + 1) = i + 1 + j by omega] at this)
    refine ⟨q :: qs, by simp [g1], ?_, ?_⟩
    · simp only [tmF, mF, if_true]
      rw [shiftT qs 0 (fun _ => true) _ _ (fun _ => rfl), shiftM qs 0 (fun _ => true) _ _ (fun _ => rfl)]
      simpa using g2
    · intro p o' q' ho hq
      cases p with
      | zero =>
        simp at ho hq
        subst ho; subst hq
        rw [tmF_none _ _ _ _ (fun j _ => by simp), mF_none _ _ _ _ (fun j _ => by simp)]
        exact h2
      | succ p =>
        simp at ho hq
        have := g3 p o' q' ho hq
        simp only [tmF, mF]
        rw [if_pos (by simp), if_pos (by simp)]
        rw [shiftT qs 0 (fun j => decide (j < p)) _ _ (fun j => by simp; omega), shiftM qs 0 (fun j => decide (j < p)) _ _ (fun j => by simp; omega)]
        exact this
theorem rm_pad {σ : Sg} {m : Mem} {w : World} (h : RM base w0 σ m w) (n : Nat) : RM base w0 σ (m ++ List.replicate n none) w := by
  have key : ∀ (b : Nat) (k : Blk), (m ++ List.replicate n none : Mem)[b]? = some (some k) ↔ m[b]? = some (some k) := by
    intro b k
    rcases Nat.lt_or_ge b m.length with hl | hl
    · rw [List.getElem?_append_left hl]
    · rw [List.getElem?_append_right hl]
      have : m[b]? = none := by simp; omega
      rw [this]
      simp [List.getElem?_replicate]
  exact ⟨fun b k g hb hg => h.blk b k g ((key b k).1 hb) hg, fun b c g k l h1 h2 r1 r2 h3 h4 h5 h6 => h.inj b c g k l ((key b k).1 h1) ((key c l).1 h2) r1 r2 h3 h4 h5 h6, fun b g hg => by obtain ⟨k, hk⟩ := h.dom b g hg; exact ⟨k, (key b k).2 hk⟩, fun b g k hk hg hr => h.lo b g k ((key b k).1 hk) hg hr, fun b g k hk hg hr => h.hi b g k ((key b k).1 hk) hg hr, h.bel, h.base⟩
/-- What the check says of two operations that meet. -/
theorem chk_hits {bf : List Nat} {mp : Mem} {qs : List Rec} (h : chk bf mp qs = true) {i j : Nat} {p q : Rec} (hp : qs[i]? = some p) (hq : qs[j]? = some q) (hne : i ≠ j) (hh : hits p q = true) :
    (bf.getD j 0).testBit i = true ∨ (bf.getD i 0).testBit j = true := by
  unfold chk at h
  rw [List.all_eq_true] at h
  have h1 := h (p, i) (by rw [List.mem_zipIdx_iff_getElem?]; exact hp)
  simp only [Bool.and_eq_true] at h1
  have h2 := h1.1
  rw [List.all_eq_true] at h2
  have h3 := h2 (q, j) (by rw [List.mem_zipIdx_iff_getElem?]; exact hq)
  simp only [Bool.or_eq_true, beq_iff_eq, Bool.not_eq_true'] at h3
  rcases h3 with ((h3 | h3) | h3) | h3
  · exact absurd h3 hne
  · rw [hh] at h3; cases h3
  · exact .inl h3
  · exact .inr h3
theorem chk_fresh {bf : List Nat} {mp : Mem} {qs : List Rec} (h : chk bf mp qs = true) {i : Nat} {p : Rec} (hp : qs[i]? = some p) {b : Nat} {k : Blk} (hw : p.wr = some (b, k)) :
    b ∈ p.rd ∨ (mp[b]? = some none ∧ ∀ j q, qs[j]? = some q → i ≠ j → writes q b = true → (bf.getD j 0).testBit i = true) := by
  unfold chk at h
  rw [List.all_eq_true] at h
  have h1 := h (p, i) (by rw [List.mem_zipIdx_iff_getElem?]; exact hp)
  simp only [Bool.and_eq_true] at h1
  have h2 := h1.2
  rw [hw] at h2
  simp only [Bool.or_eq_true, Bool.and_eq_true] at h2
  rcases h2 with h2 | ⟨h2, h3⟩
  · left; simpa using h2
  · right
    refine ⟨?_, fun j q hq hne hwr => ?_⟩
    · unfold freshIn at h2
      split at h2
      · assumption
      · cases h2
    · rw [List.all_eq_true] at h3
      have h4 := h3 (q, j) (by rw [List.mem_zipIdx_iff_getElem?]; exact hq)
      simp only [Bool.or_eq_true, beq_iff_eq, Bool.not_eq_true'] at h4
      rcases h4 with (h4 | h4) | h4
      · exact absurd h4 hne
      · rw [hwr] at h4; cases h4
      · exact h4
theorem count_set {l : List Bool} {i : Nat} (h : l[i]? = some false) : (l.set i true).count false + 1 = l.count false := by
  induction l generalizing i with
  | nil => simp at h
  | cons x l ih =>
    cases i with
    | zero => simp at h; subst h; simp
    | succ i =>
      simp at h
      have := ih h
      simp only [List.set_cons_succ, List.count_cons]
      omega
/-- A region that draws its order. -/
theorem draw_ok (hE : EqOk P E) (hC : COk P C) (hm : P.follows .mixedOrders = true) {id : Nat} {ops : Array Oper} {tm : List MV} {m : Mem} {k : KS} {r : Out} (h : xdraw P E C ops tm m k = some r)
    {σ : Sg} {a : Act} {w : World} (hX : C.env base w0 σ.x) (hR : Rel base w0 σ tm m a w) (Q : Exit → Act → World → Prop)
    (hK : ∀ tm' m' σ' a' w', k tm' m' = some r → Ext σ σ' → Rel base w0 σ' tm' m' a' w' → Q .normal a' w') : (Code.region id ops true).wp P Q a w := by
  unfold xdraw at h
  cases hedge : edgesOk ops.toList 0 with
  | false => rw [hedge] at h; cases h
  | true =>
  rw [hedge] at h
  simp only [cond_true] at h
  obtain ⟨qs, hlen, hfin, hst⟩ := xgo_ok hE hC _ _ _ _ _ h
  generalize hmp : m ++ List.replicate ops.toList.length none = mp at *
  simp only [List.nil_append] at hfin
  cases hchk : chk (befs ops.toList []) mp qs with
  | false => rw [hchk] at hfin; cases hfin
  | true =>
  rw [hchk] at hfin
  simp only [cond_true] at hfin
  have hn : ops.size = ops.toList.length := by simp
  refine wp_region_any hm ?_
  -- the relation that is kept
  let Inv : Array Bool → Act → World → Prop := fun L a w => L.size = ops.size ∧ Closed ops.toList (fun j => L.getD j false) ∧ ∃ σ', Ext σ σ' ∧ Rel base w0 σ' (tmF qs 0 (fun j => L.getD j false) tm) (mF qs 0 (fun j => L.getD j false) mp) a w
  have getD_lt : ∀ (L : Array Bool) j, L.getD j false = true → j < L.size := by
    intro L j hj
    rcases Nat.lt_or_ge j L.size with hl | hl
    · exact hl
    · simp [Array.getD, Nat.not_lt.2 hl] at hj
  have all_done : ∀ L a w, Inv L a w → (∀ j, j < ops.size → L.getD j false = true) → Q .normal a w := by
    intro L a w ⟨hsz, _, σ', hx, hrel⟩ hall
    have e1 : tmF qs 0 (fun j => L.getD j false) tm = tmF qs 0 (fun _ => true) tm := by
      apply List.ext_getElem?
      intro t
      rw [tmF_get, tmF_get, lastT_congr qs 0 (fun j => L.getD j false) (fun _ => true) t (fun j q hj _ => by
        have : j < qs.length := (List.getElem?_eq_some_iff.1 hj).1
        simp only [Nat.zero_add]
        exact hall j (by omega))]
    have e2 : mF qs 0 (fun j => L.getD j false) mp = mF qs 0 (fun _ => true) mp := by
      apply List.ext_getElem?
      intro b
      rw [mF_get, mF_get, lastB_congr qs 0 (fun j => L.getD j false) (fun _ => true) b (fun j q hj _ => by
        have : j < qs.length := (List.getElem?_eq_some_iff.1 hj).1
        simp only [Nat.zero_add]
        exact hall j (by omega))]
    rw [e1, e2] at hrel
    exact hK _ _ σ' a w hfin hx hrel
  have ready_mem : ∀ (L : Array Bool) i, i ∈ Region.ready .any ops L ↔ ∃ o, ops.toList[i]? = some o ∧ L.getD i true = false ∧ ∀ e ∈ edgesOf o, L.getD e false = true := by
    intro L i
    unfold Region.ready
    rw [List.mem_filter]
    constructor
    · rintro ⟨h1, h2⟩
      have hi : i < ops.size := by simpa using h1
      refine ⟨ops[i], by simp [hi], ?_⟩
      simp only [Bool.and_eq_true, Bool.not_eq_true', hi, getElem?_pos, Option.map_some, Option.getD_some, Array.all_eq_true_iff_forall_mem] at h2
      refine ⟨h2.1, fun e he => ?_⟩
      unfold edgesOf at he
      rw [List.mem_map] at he
      obtain ⟨x, hx1, rfl⟩ := he
      rw [List.mem_filter] at hx1
      have := h2.2 x (by simpa using hx1.1)
      simp only [Bool.or_eq_true, Bool.not_eq_true'] at this
      rcases this with h3 | h3
      · rw [hx1.2] at h3; cases h3
      · exact h3
    · rintro ⟨o, ho, h1, h2⟩
      have hi : i < ops.size := by rw [hn]; exact (List.getElem?_eq_some_iff.1 ho).1
      refine ⟨by simpa using hi, ?_⟩
      have ho' : ops[i]? = some o := by simpa using ho
      simp only [h1, ho', Option.map_some, Option.getD_some, Bool.not_false, Bool.true_and, Array.all_eq_true_iff_forall_mem]
      intro e he
      simp only [Bool.or_eq_true, Bool.not_eq_true']
      cases hb : Region.binds .any e with
      | false => exact .inl rfl
      | true =>
        right
        exact h2 e.on (by unfold edgesOf; rw [List.mem_map]; exact ⟨e, by rw [List.mem_filter]; exact ⟨by simpa using he, hb⟩, rfl⟩)
  have some_ready : ∀ (L : Array Bool), L.size = ops.size → ∀ j, j < ops.size → L.getD j false = false → Region.ready .any ops L ≠ [] := by
    intro L hsz j
    induction j using Nat.strongRecOn with
    | _ j ih =>
      intro hj hLj
      obtain ⟨o, ho⟩ : ∃ o, ops.toList[j]? = some o := ⟨ops[j], by simp [hj]⟩
      by_cases hall : ∀ e ∈ edgesOf o, L.getD e false = true
      · intro hnil
        have : j ∈ Region.ready .any ops L := (ready_mem L j).2 ⟨o, ho, by simp [Array.getD, hsz, hj] at hLj ⊢; exact hLj, hall⟩
        rw [hnil] at this
        cases this
      · have hex : ∃ e, e ∈ edgesOf o ∧ ¬ L.getD e false = true := Classical.byContradiction fun hne => hall fun e he => Classical.byContradiction fun hh => hne ⟨e, he, hh⟩
        obtain ⟨e, he, hLe⟩ := hex
        have hlt := edges_lt ops.toList 0 j o hedge ho e he
        exact ih e (by omega) (by omega) (by simpa using hLe)
  have step : ∀ L i a w, Inv L a w → i ∈ Region.ready .any ops L → ∀ K : Act → World → Prop, (∀ a' w', Inv (L.setIfInBounds i true) a' w' → K a' w') → wpOp P ops Q i K a w := by
    intro L i a w ⟨hsz, hcl, σ', hx, hrel⟩ hi K hKK
    obtain ⟨o, ho, hLi, hedges⟩ := (ready_mem L i).1 hi
    have hi0 : i < ops.size := by rw [hn]; exact (List.getElem?_eq_some_iff.1 ho).1
    have hLi' : L.getD i false = false := by simp [Array.getD, hsz, hi0] at hLi ⊢; exact hLi
    obtain ⟨q, hq⟩ : ∃ q, qs[i]? = some q := ⟨qs[i]'(by omega), List.getElem?_eq_getElem (by omega)⟩
    obtain ⟨hdst, hstep⟩ := hst i o q ho hq
    have hspec := befs_spec (fun j => L.getD j false) ops.toList [] [] rfl hcl (by intro j i o hj; simp at hj)
    simp only [List.nil_append] at hspec
    -- whoever must run ahead of i is done, and stands ahead; whoever waits for i is not done, and stands behind
    have before : ∀ j, ((befs ops.toList []).getD i 0).testBit j = true → L.getD j false = true ∧ j < i := by
      intro j hj
      refine ⟨hspec i j o ho hj hedges, ?_⟩
      have hcl2 : Closed ops.toList (fun x => decide (x < i)) := by
        intro x ox hox hxi e he
        have := edges_lt ops.toList 0 x ox hedge hox e he
        simp only [decide_eq_true_eq] at hxi ⊢
        omega
      have h2 := befs_spec (fun x => decide (x < i)) ops.toList [] [] rfl hcl2 (by intro j i o hj; simp at hj)
      simp only [List.nil_append] at h2
      have := h2 i j o ho hj (fun e he => by have := edges_lt ops.toList 0 i o hedge ho e he; simp only [decide_eq_true_eq]; omega)
      simpa using this
    have behind : ∀ j, j < ops.size → ((befs ops.toList []).getD j 0).testBit i = true → L.getD j false = false ∧ i < j := by
      intro j hj hb
      obtain ⟨oj, hoj⟩ : ∃ oj, ops.toList[j]? = some oj := ⟨ops[j], by simp [hj]⟩
      constructor
      · cases hLj : L.getD j false with
        | false => rfl
        | true =>
          have := hspec j i oj hoj hb (fun e he => hcl j oj hoj hLj e he)
          rw [this] at hLi'
          cases hLi'
      · have hcl2 : Closed ops.toList (fun x => decide (x < j)) := by
          intro x ox hox hxi e he
          have := edges_lt ops.toList 0 x ox hedge hox e he
          simp only [decide_eq_true_eq] at hxi ⊢
          omega
        have h2 := befs_spec (fun x => decide (x < j)) ops.toList [] [] rfl hcl2 (by intro j i o hj; simp at hj)
        simp only [List.nil_append] at h2
        have := h2 j i oj hoj hb (fun e he => by have := edges_lt ops.toList 0 j oj hedge hoj e he; simp only [decide_eq_true_eq]; omega)
        simpa using this
    have meet : ∀ j q', qs[j]? = some q' → j ≠ i → (hits q' q = true ∨ hits q q' = true) → L.getD j false = decide (j < i) := by
      intro j q' hq' hne hh
      have hj : j < ops.size := by have := (List.getElem?_eq_some_iff.1 hq').1; omega
      have hor : ((befs ops.toList []).getD j 0).testBit i = true ∨ ((befs ops.toList []).getD i 0).testBit j = true := by
        rcases hh with hh | hh
        · exact (chk_hits hchk hq' hq hne hh).symm
        · exact chk_hits hchk hq hq' (Ne.symm hne) hh
      rcases hor with hb | hb
      · obtain ⟨h1, h2⟩ := behind j hj hb
        rw [h1]; simp; omega
      · obtain ⟨h1, h2⟩ := before j hb
        rw [h1]; simp [h2]
    have hDi : ∀ (D : Nat → Bool), D = (fun j => L.getD j false) → D i = false := by intro D hD; rw [hD]; exact hLi'
    -- what i reads reads as in the text's order
    have readT : ∀ t ∈ q.tr, (tmF qs 0 (fun j => L.getD j false) tm)[t]? = (tmF qs 0 (fun j => decide (j < i)) tm)[t]? := by
      intro t ht
      rw [tmF_get, tmF_get, lastT_congr qs 0 (fun j => L.getD j false) (fun j => decide (j < i)) t]
      intro j q' hj hd
      simp only [Nat.zero_add]
      by_cases e : j = i
      · subst e; rw [hLi']; simp
      · exact meet j q' hj e (.inl (by unfold hits; rw [hd]; simp [ht]))
    have readB : ∀ b ∈ q.rd, (mF qs 0 (fun j => L.getD j false) mp)[b]? = (mF qs 0 (fun j => decide (j < i)) mp)[b]? := by
      intro b hb
      rw [mF_get, mF_get, lastB_congr qs 0 (fun j => L.getD j false) (fun j => decide (j < i)) b]
      intro j q' hj hw
      simp only [Nat.zero_add]
      by_cases e : j = i
      · subst e; rw [hLi']; simp
      · refine meet j q' hj e (.inl ?_)
        unfold writes at hw
        unfold hits
        cases hwr : q'.wr with
        | none => rw [hwr] at hw; cases hw
        | some p => obtain ⟨c, kk⟩ := p; rw [hwr] at hw; simp only [beq_iff_eq] at hw; subst hw; simp [hb]
    have freshB : ∀ b kk, q.wr = some (b, kk) → b ∈ q.rd ∨ (b < (mF qs 0 (fun j => L.getD j false) mp).length ∧ ∀ k', (mF qs 0 (fun j => L.getD j false) mp)[b]? ≠ some (some k')) := by
      intro b kk hw
      rcases chk_fresh hchk hq hw with h1 | ⟨h1, h2⟩
      · exact .inl h1
      · right
        have hl : lastB qs 0 (fun j => L.getD j false) b = none := by
          apply lastB_none
          intro j q' hj hwr
          simp only [Nat.zero_add]
          by_cases e : i = j
          · subst e; exact hLi'
          · exact (behind j (by have := (List.getElem?_eq_some_iff.1 hj).1; omega) (h2 j q' hj e hwr)).1
        refine ⟨by rw [mF_len]; exact (List.getElem?_eq_some_iff.1 h1).1, fun k' hk' => ?_⟩
        rw [mF_get, hl, h1] at hk'
        simp at hk'
    -- behind it
    have hL2 : ∀ j, (L.setIfInBounds i true).getD j false = if j = i then true else L.getD j false := by
      intro j
      by_cases e : j = i
      · subst e; simp [Array.getD, hsz, hi0]
      · simp only [Array.getD, Array.size_setIfInBounds]
        rw [if_neg e]
        split
        · rename_i hj
          rw [Array.getInternal_eq_getElem, Array.getElem_setIfInBounds_ne (by omega) (Ne.symm e)]
          rfl
        · rfl
    have putT : put (tmF qs 0 (fun j => L.getD j false) tm) q.dst q.v = tmF qs 0 (fun j => (L.setIfInBounds i true).getD j false) tm := by
      apply List.ext_getElem?
      intro t
      rw [put_get, tmF_len]
      by_cases hd : q.dst = some t
      · have hh := lastT_hit qs 0 i (fun j => (L.setIfInBounds i true).getD j false) t q hq hd (by simp only [Nat.zero_add]; rw [hL2]; simp) (fun j q' hlt hj hd' => by
          simp only [Nat.zero_add]
          rw [hL2, if_neg (by omega), meet j q' hj (by omega) (.inr (by unfold hits; rw [hd]; simp [hd']))]
          simp; omega)
        rw [tmF_get, tmF_get, hh]
        simp only
        by_cases hl : t < tm.length
        · simp [hd, hl]
        · have : tm[t]? = none := by simp; omega
          simp only [hd, hl, and_false, if_false, this]
          cases lastT qs 0 (fun j => L.getD j false) t <;> rfl
      · rw [if_neg (fun x => hd x.1), tmF_get, tmF_get, lastT_congr qs 0 (fun j => L.getD j false) (fun j => (L.setIfInBounds i true).getD j false) t]
        intro j q' hj hd'
        simp only [Nat.zero_add]
        rw [hL2, if_neg]
        rintro rfl
        rw [hq] at hj
        injection hj with hj
        subst hj
        exact hd hd'
    have putB : setW (mF qs 0 (fun j => L.getD j false) mp) q.wr = mF qs 0 (fun j => (L.setIfInBounds i true).getD j false) mp := by
      apply List.ext_getElem?
      intro b
      rw [setW_get, mF_len]
      cases hw : q.wr with
      | none =>
        simp only
        rw [mF_get, mF_get, lastB_congr qs 0 (fun j => L.getD j false) (fun j => (L.setIfInBounds i true).getD j false) b]
        intro j q' hj hw'
        simp only [Nat.zero_add]
        rw [hL2, if_neg]
        rintro rfl
        rw [hq] at hj
        injection hj with hj
        subst hj
        simp [writes, hw] at hw'
      | some p =>
        obtain ⟨c, kk⟩ := p
        simp only
        by_cases e : c = b
        · subst e
          have hh := lastB_hit qs 0 i (fun j => (L.setIfInBounds i true).getD j false) c kk q hq hw (by simp only [Nat.zero_add]; rw [hL2]; simp) (fun j q' hlt hj hd' => by
            simp only [Nat.zero_add]
            rw [hL2, if_neg (by omega), meet j q' hj (by omega) (.inr (by
              unfold writes at hd'
              unfold hits
              rw [hw]
              cases hwr : q'.wr with
              | none => rw [hwr] at hd'; cases hd'
              | some p => obtain ⟨c', k'⟩ := p; rw [hwr] at hd'; simp only [beq_iff_eq] at hd'; subst hd'; simp))]
            simp; omega)
          rw [mF_get, mF_get, hh]
          simp only
          by_cases hl : c < mp.length
          · simp [hl]
          · have : mp[c]? = none := by simp; omega
            simp only [hl, and_false, if_false, this]
            cases lastB qs 0 (fun j => L.getD j false) c <;> rfl
        · rw [if_neg (fun x => e x.1), mF_get, mF_get, lastB_congr qs 0 (fun j => L.getD j false) (fun j => (L.setIfInBounds i true).getD j false) b]
          intro j q' hj hw'
          simp only [Nat.zero_add]
          rw [hL2, if_neg]
          rintro rfl
          rw [hq] at hj
          injection hj with hj
          subst hj
          simp [writes, hw, e] at hw'
    have hcl' : Closed ops.toList (fun j => (L.setIfInBounds i true).getD j false) := by
      intro j oj hoj hj e he
      simp only [hL2] at hj ⊢
      by_cases e1 : j = i
      · subst e1
        rw [ho] at hoj
        injection hoj with hoj
        subst hoj
        split
        · rfl
        · exact hedges e he
      · rw [if_neg e1] at hj
        split
        · rfl
        · exact hcl j oj hoj hj e he
    have main := hstep base w0 σ' _ _ a w K Q (by rw [hx.x]; exact hX) hrel readT readB freshB (fun σ'' a' w' hx' hrel' => hKK a' w' ⟨by simp [hsz], hcl', σ'', hx.trans hx', by rw [putT, putB] at hrel'; exact hrel'⟩)
    unfold wpOp
    have ho' : ops[i]? = some o := by simpa using ho
    simp only [ho']
    split
    · rename_i hwa
      rw [if_pos hwa] at main
      exact .inl main
    · rename_i hwa
      rw [if_neg hwa] at main
      exact main
  have run : ∀ fuel L a w, Inv L a w → L.toList.count false = fuel → wpAny P .any ops Q fuel L a w := by
    intro fuel
    induction fuel with
    | zero =>
      intro L a w hI hc
      have hall : ∀ j, j < ops.size → L.getD j false = true := by
        intro j hj
        cases hLj : L.getD j false with
        | true => rfl
        | false =>
          have hs := hI.1
          have hjj : L.toList[j]? = some false := by
            have : j < L.size := by omega
            simp [Array.getD, this] at hLj
            simp [this, hLj]
          have := count_set hjj
          omega
      refine ⟨?_, all_done L a w hI hall⟩
      cases hr : Region.ready .any ops L with
      | nil => rfl
      | cons i rest =>
        have hi : i ∈ Region.ready .any ops L := by rw [hr]; exact List.mem_cons_self
        obtain ⟨o, ho, hLi, _⟩ := (ready_mem L i).1 hi
        have hi0 : i < ops.size := by rw [hn]; exact (List.getElem?_eq_some_iff.1 ho).1
        have h1 := hall i hi0
        have hs := hI.1
        simp [Array.getD, hs, hi0] at h1 hLi
        rw [h1] at hLi
        cases hLi
    | succ fuel ih =>
      intro L a w hI hc
      refine ⟨fun hnil => all_done L a w hI (fun j hj => ?_), fun i hi => ?_⟩
      · cases hLj : L.getD j false with
        | true => rfl
        | false => exact absurd hnil (some_ready L hI.1 j hj hLj)
      · refine step L i a w hI hi _ (fun a' w' hI' => ih _ a' w' hI' ?_)
        obtain ⟨o, ho, hLi, _⟩ := (ready_mem L i).1 hi
        have hi0 : i < ops.size := by rw [hn]; exact (List.getElem?_eq_some_iff.1 ho).1
        have hs := hI.1
        have hii : L.toList[i]? = some false := by
          have : i < L.size := by omega
          simp [Array.getD, this] at hLi
          simp [this, hLi]
        have := count_set hii
        rw [Array.toList_setIfInBounds]
        omega
  refine run _ _ _ _ ⟨by simp, ?_, σ, Ext.refl σ, ?_⟩ (by simp)
  · intro j o hj hD
    simp [Array.getD] at hD
  · rw [tmF_none _ _ _ _ (fun j _ => by simp [Array.getD]), mF_none _ _ _ _ (fun j _ => by simp [Array.getD])]
    refine ⟨hR.df, hR.tm, ?_⟩
    rw [← hmp]
    exact (rm_pad hR.mem _).drew
end
end Go.Proofs.Ytppklhfiajjhmaa.Y
