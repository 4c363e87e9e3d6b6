/- What is proved: a function's code, carried out on the small memory, does what the machine does. Conditions: none but those in each statement. -/
import Derived.Test.YtppklhfiajjhmaaZRasterShiftsY7
namespace Go.Proofs.Ytppklhfiajjhmaa.Y
open Go Go.RowKit
set_option linter.unusedVariables false
set_option linter.unusedSimpArgs false
inductive XE where
  | normal
  | exit (id : Nat)
  | ret
def XE.out : XE → Exit
  | .normal => .normal
  | .exit id => .exit id
  | .ret => .ret
abbrev KE := XE → List MV → Mem → Option Out
def xloop (body : List MV → Mem → KE → Option Out) : Nat → List MV → Mem → KE → Option Out
  | 0, _, _, _ => none
  | n + 1, tm, m, k => body tm m (fun e tm m => match e with
    | .normal => xloop body n tm m k
    | .exit id => k (.exit id) tm m
    | .ret => k .ret tm m)
def xcode (P : Program) (E : Eqs) (C : Ctx) (n : Nat) : Code → List MV → Mem → KE → Option Out
  | .skip, tm, m, k => k .normal tm m
  | .region _ ops draw, tm, m, k => bif draw then xdraw P E C ops tm m (k .normal) else xops P E C ops ops.toList tm m (k .normal)
  | .seq a b, tm, m, k => xcode P E C n a tm m (fun e tm m => match e with
    | .normal => xcode P E C n b tm m k
    | .exit id => k (.exit id) tm m
    | .ret => k .ret tm m)
  | .cond c a b, tm, m, k => match c with
    | .tmp t => match tm[t]? with
      | some (.val (.bool v)) => bif v then xcode P E C n a (tm.set t (.val (.bool true))) m k else xcode P E C n b (tm.set t (.val (.bool false))) m k
      | _ => none
    | _ => none
  | .block id c, tm, m, k => xcode P E C n c tm m (fun e tm m => match e with
    | .normal => k .normal tm m
    | .exit i => bif i == id then k .normal tm m else k (.exit i) tm m
    | .ret => k .ret tm m)
  | .loop c, tm, m, k => xloop (fun tm m k => xcode P E C n c tm m k) n tm m k
  | .exit id, tm, m, k => k (.exit id) tm m
  | .ret, tm, m, k => k .ret tm m
  | _, _, _, _ => none
def xres1 (P : Program) (tm : List MV) (m : Mem) : ResultVar → Option MV
  | .tmp t => some (tm.getD t (.val undef))
  | .cell a t => match tm.getD a (.val undef) with
    | .ptr b o => match rdM m b with
      | some k => partV P t k.cells o
      | none => none
    | _ => none
def xres (P : Program) (tm : List MV) (m : Mem) : List ResultVar → Option (List MV)
  | [] => some []
  | x :: l => match xres1 P tm m x, xres P tm m l with
    | some v, some vs => some (v :: vs)
    | _, _ => none
def xpack : List MV → MV
  | [v] => v
  | l => .tup l
def xfun (P : Program) (E : Eqs) (C : Ctx) (n f : Nat) (args : List MV) (m : Mem) (k : KM) : Option Out :=
  match P.funcs[f]? with
  | some fn => match fn.body with
    | some c => xcode P E C n c (args ++ List.replicate (fn.ntmps - args.length) (.val undef)) m (fun e tm m => match e with
      | .exit _ => none
      | _ => match xres P tm m fn.results.toList with
        | some vs => k (xpack vs) m
        | none => none)
    | none => none
  | none => none
section
variable {P : Program} {E : Eqs} {C : Ctx} {base : Bs} {w0 : World}
theorem set_same {tm : List MV} {t : Nat} {v : MV} (h : tm[t]? = some v) : tm.set t v = tm := by
  apply List.ext_getElem?
  intro i
  have hlt : t < tm.length := (List.getElem?_eq_some_iff.1 h).1
  rw [List.getElem?_set]
  split
  · rename_i e; subst e; first | exact h.symm | (rw [if_pos hlt]; exact h.symm) | simp_all
  · rfl
theorem xcode_ok (hE : EqOk P E) (hC : COk P C) (hm : P.follows .mixedOrders = true) {n : Nat} : ∀ (c : Code) {tm : List MV} {m : Mem} {k : KE} {r : Out}, xcode P E C n c tm m k = some r →
    ∀ {σ : Sg} {a : Act} {w : World} {Q : Exit → Act → World → Prop}, C.env base w0 σ.x → Rel base w0 σ tm m a w →
    (∀ e tm' m' σ' a' w', k e tm' m' = some r → Ext σ σ' → Rel base w0 σ' tm' m' a' w' → Q e.out a' w') → c.wp P Q a w := by
  intro c
  induction c with
  | skip => intro tm m k r h σ a w Q hX hR hK; exact wp_skip (hK .normal _ _ σ a w h (Ext.refl σ) hR)
  | region id ops draw =>
    intro tm m k r h σ a w Q hX hR hK
    cases draw with
    | true =>
      simp only [xcode, cond_true] at h
      exact draw_ok hE hC hm h hX hR Q (fun tm' m' σ' a' w' h1 h2 h3 => hK .normal tm' m' σ' a' w' h1 h2 h3)
    | false =>
      simp only [xcode, cond_false] at h
      exact wp_region_list (xops_ok hE hC _ h hX hR (fun tm' m' σ' a' w' h1 h2 h3 => hK .normal tm' m' σ' a' w' h1 h2 h3))
  | seq x y ihx ihy =>
    intro tm m k r h σ a w Q hX hR hK
    simp only [xcode] at h
    refine wp_seq (ihx h hX hR ?_)
    intro e tm' m' σ' a' w' h1 h2 h3
    cases e with
    | normal => exact ihy h1 (by rw [h2.x]; exact hX) h3 (fun e tm'' m'' σ'' a'' w'' g1 g2 g3 => hK e tm'' m'' σ'' a'' w'' g1 (h2.trans g2) g3)
    | exit id => exact hK (.exit id) tm' m' σ' a' w' h1 h2 h3
    | ret => exact hK .ret tm' m' σ' a' w' h1 h2 h3
  | cond c x y ihx ihy =>
    intro tm m k r h σ a w Q hX hR hK
    simp only [xcode] at h
    split at h
    · rename_i t
      split at h
      · rename_i v hv
        obtain ⟨u, h1, h2⟩ := RVs.get t hR.tm hv
        have e1 := h2.val_inv
        subst e1
        have hev : a.eval (.tmp t) = .bool v := by
          show a.tmps.getD t undef = _
          have : a.tmps[t]? = some (.bool v) := by simpa using h1
          simp [Array.getD_eq_getD_getElem?, this]
        refine wp_cond hev ?_
        cases v with
        | true =>
          simp only [cond_true] at h
          rw [set_same hv] at h
          exact ihx h hX hR hK
        | false =>
          simp only [cond_false] at h
          rw [set_same hv] at h
          exact ihy h hX hR hK
      · simp at h
    · simp at h
  | block id c ih =>
    intro tm m k r h σ a w Q hX hR hK
    simp only [xcode] at h
    refine wp_block (ih h hX hR ?_)
    intro e tm' m' σ' a' w' h1 h2 h3
    cases e with
    | normal => exact hK .normal tm' m' σ' a' w' h1 h2 h3
    | exit i =>
      simp only [XE.out, Exit.inBlock]
      by_cases hi : i = id
      · rw [if_pos hi]
        subst hi
        simp only [beq_self_eq_true, cond_true] at h1
        exact hK .normal tm' m' σ' a' w' h1 h2 h3
      · rw [if_neg hi]
        have : (i == id) = false := by simpa using hi
        simp only [this, cond_false] at h1
        exact hK (.exit i) tm' m' σ' a' w' h1 h2 h3
    | ret => exact hK .ret tm' m' σ' a' w' h1 h2 h3
  | loop c ih =>
    intro tm m k r h σ a w Q hX hR hK
    simp only [xcode] at h
    intro b kk cs
    have key : ∀ j tm m σ' a w, xloop (fun tm m k => xcode P E C n c tm m k) j tm m k = some r → Ext σ σ' → Rel base w0 σ' tm m a w →
        ∃ e a' w', Q e a' w' ∧ Arrives P (lone (b.at a (.code c :: .inLoop c :: kk)) cs w) b kk cs e a' w' := by
      intro j
      induction j with
      | zero => intro tm m σ' a w h; simp [xloop] at h
      | succ j ihj =>
        intro tm m σ' a w h hx hR
        simp only [xloop] at h
        have hw := ih (Q := fun e a' w' => match e with
          | .normal => ∃ tm' m' σ'', xloop (fun tm m k => xcode P E C n c tm m k) j tm' m' k = some r ∧ Ext σ σ'' ∧ Rel base w0 σ'' tm' m' a' w'
          | e => Q e a' w') h (by rw [hx.x]; exact hX) hR (by
            intro e tm' m' σ'' a' w' h1 h2 h3
            cases e with
            | normal => exact ⟨tm', m', σ'', h1, hx.trans h2, h3⟩
            | exit id => exact hK (.exit id) tm' m' σ'' a' w' h1 (hx.trans h2) h3
            | ret => exact hK .ret tm' m' σ'' a' w' h1 (hx.trans h2) h3)
        obtain ⟨e, a₁, w₁, hq, harr⟩ := hw b (.inLoop c :: kk) cs
        cases e with
        | normal =>
          obtain ⟨tm', m', σ'', g1, g2, g3⟩ := hq
          obtain ⟨e₂, a₂, w₂, hq₂, harr₂⟩ := ihj tm' m' σ'' a₁ w₁ g1 g2 g3
          exact ⟨e₂, a₂, w₂, hq₂, .of_steps (Steps.trans harr (.one step_inLoop)) harr₂⟩
        | exit id => exact ⟨_, a₁, w₁, hq, .pass (x := .inLoop c) rfl (fun _ _ => .inl (by simp)) harr⟩
        | goto l => exact ⟨_, a₁, w₁, hq, .pass (x := .inLoop c) rfl (fun _ _ => .inl (by simp)) harr⟩
        | ret => exact ⟨_, a₁, w₁, hq, .pass (x := .inLoop c) rfl (fun _ _ => .inl (by simp)) harr⟩
        | panic ch => exact ⟨_, a₁, w₁, hq, .pass (x := .inLoop c) rfl (fun _ _ => .inl (by simp)) harr⟩
        | outgrown => exact ⟨_, a₁, w₁, hq, .pass (x := .inLoop c) rfl (fun _ _ => .inl (by simp)) harr⟩
    obtain ⟨e, a', w', hq, harr⟩ := key n tm m σ a w h (Ext.refl σ) hR
    exact ⟨e, a', w', hq, .of_steps (.one step_loop) harr⟩
  | exit id => intro tm m k r h σ a w Q hX hR hK; exact wp_exit (hK (.exit id) _ _ σ a w h (Ext.refl σ) hR)
  | ret => intro tm m k r h σ a w Q hX hR hK; exact wp_ret (hK .ret _ _ σ a w h (Ext.refl σ) hR)
  | rangeFunc f ps as b _ _ => intro tm m k r h; simp [xcode] at h
  | scope c _ => intro tm m k r h; simp [xcode] at h
  | label l => intro tm m k r h; simp [xcode] at h
  | goto l => intro tm m k r h; simp [xcode] at h
  | refuse s => intro tm m k r h; simp [xcode] at h
theorem xres_ok {σ : Sg} {tm : List MV} {m : Mem} {a : Act} {w : World} (hR : Rel base w0 σ tm m a w) : ∀ {l : List ResultVar} {vs : List MV}, xres P tm m l = some vs →
    ∃ us : List Value, (∀ f : ResultVar → Sem Value, (∀ t, f (.tmp t) = pure (a.tmps.getD t undef)) → (∀ b t, f (.cell b t) = (do loadVar t (← asAddr (a.tmps.getD b undef)))) → (l.mapM f).run P w = .ok us w) ∧ RVs σ vs us
  | [], vs, h => by simp [xres] at h; subst h; exact ⟨[], fun _ _ _ => rfl, by simp [RVs]⟩
  | x :: l, vs, h => by
    simp only [xres] at h
    cases h1 : xres1 P tm m x with
    | none => simp [h1] at h
    | some v =>
      cases h2 : xres P tm m l with
      | none => simp [h1, h2] at h
      | some vs' =>
        simp [h1, h2] at h
        subst h
        obtain ⟨us, g1, g2⟩ := xres_ok hR h2
        have hx : ∃ u, (∀ f : ResultVar → Sem Value, (∀ t, f (.tmp t) = pure (a.tmps.getD t undef)) → (∀ b t, f (.cell b t) = (do loadVar t (← asAddr (a.tmps.getD b undef)))) → (f x).run P w = .ok u w) ∧ RV σ v u := by
          cases x with
          | tmp t =>
            simp only [xres1, Option.some.injEq] at h1
            subst h1
            exact ⟨_, fun f q1 q2 => by rw [q1]; rfl, ev_ok hR.tm (.tmp t)⟩
          | cell b t =>
            simp only [xres1] at h1
            split at h1
            · rename_i b' o hb
              split at h1
              · rename_i kk hk
                have e := ev_ok hR.tm (.tmp b)
                have e' : RV σ (tm.getD b (.val undef)) (a.tmps.getD b undef) := e
                rw [hb] at e'
                obtain ⟨g, hg, e2⟩ := e'.ptr_inv
                obtain ⟨pre, cs, rest, f1, f2, _, f5, _⟩ := hR.mem.reads.at hk hg
                obtain ⟨u, f3, f4⟩ := load_pre h1 f2 f1
                rw [f5] at f3
                exact ⟨u, fun f q1 q2 => by rw [q2]; simp only [e2, asAddr, Sem.run_bind, Sem.run_pure, Result.andThen_ok, f3], f4⟩
              · simp at h1
            · simp at h1
        obtain ⟨u, f1, f2⟩ := hx
        refine ⟨u :: us, fun f q1 q2 => ?_, by simp only [RVs]; exact ⟨u, us, rfl, f2, g2⟩⟩
        rw [List.mapM_cons, Sem.run_bind, f1 f q1 q2]
        simp only [Result.andThen_ok, Sem.run_bind]
        rw [g1 f q1 q2]
        rfl
theorem results_ok {σ : Sg} {tm : List MV} {m : Mem} {a : Act} {w : World} (hR : Rel base w0 σ tm m a w) {fn : Func} {vs : List MV} (h : xres P tm m fn.results.toList = some vs) :
    ∃ u, (results fn a.tmps).run P w = .ok u w ∧ RV σ (xpack vs) u := by
  obtain ⟨us, h1, h2⟩ := xres_ok hR h
  have h3 : ∀ f : ResultVar → Sem Value, (∀ t, f (.tmp t) = pure (a.tmps.getD t undef)) → (∀ b t, f (.cell b t) = (do loadVar t (← asAddr (a.tmps.getD b undef)))) → (fn.results.mapM f).run P w = .ok us.toArray w := by
    intro f q1 q2
    have h1 := h1 f q1 q2
    rw [← Array.toList_mapM, Sem.run_map] at h1
    cases hr : (fn.results.mapM f).run P w with
    | ok x w' =>
      rw [hr] at h1
      simp only [Result.andThen_ok] at h1
      injection h1 with k1 k2
      subst k2
      congr 1
      apply Array.ext'
      rw [k1]
    | halt x w' => rw [hr] at h1; simp at h1
  have hl := h2.length
  refine ⟨if h : us.toArray.size = 1 then us.toArray[0] else .tuple us.toArray, ?_, ?_⟩
  · unfold results
    rw [Sem.run_bind]
    rw [h3 _ (fun _ => rfl) (fun _ _ => rfl)]
    rfl
  · match vs, us, h2, hl with
    | [], [], h2, _ => simp only [xpack, RV]; exact ⟨[], by simp [RVs], by simp⟩
    | [v], [u], h2, _ =>
      simp only [RVs] at h2
      obtain ⟨u', r', e, f1, f2⟩ := h2
      simp only [List.cons.injEq] at e
      simp only [xpack]
      simpa [e.1] using f1
    | v :: v' :: l, u :: u' :: us, h2, _ => simp only [xpack, RV]; exact ⟨_, h2, by simp⟩
/-- A function whose code is carried out. -/
theorem xfun_ok (hE : EqOk P E) (hC : COk P C) (hm : P.follows .mixedOrders = true) {n f : Nat} {args : List MV} {m : Mem} {k : KM} {r : Out} (h : xfun P E C n f args m k = some r)
    {σ : Sg} {us : List Value} {w : World} (hX : C.env base w0 σ.x) (hu : RVs σ args us) (hM : RM base w0 σ m w) :
    Calls P f us.toArray w fun e w' => ∃ v m' σ' u, k v m' = some r ∧ e = .returned u ∧ Ext σ σ' ∧ RV σ' v u ∧ RM base w0 σ' m' w' := by
  unfold xfun at h
  split at h
  · rename_i fn hf
    split at h
    · rename_i c hb
      have hl := hu.length
      refine calls_of_wp hf hb (xcode_ok hE hC hm c h (σ := σ) hX ⟨rfl, ?_, hM⟩ ?_)
      · have e : (us.toArray ++ Array.replicate (fn.ntmps - us.toArray.size) undef).toList = us ++ List.replicate (fn.ntmps - args.length) undef := by simp [hl]
        rw [e]
        refine hu.append ?_
        have := RVs.vals (σ := σ) (List.replicate (fn.ntmps - args.length) undef)
        simpa using this
      · intro e tm' m' σ' a' w' h1 h2 h3
        cases e with
        | exit id => simp at h1
        | normal =>
          simp only at h1
          split at h1
          · rename_i vs hv
            obtain ⟨u, g1, g2⟩ := results_ok h3 hv
            exact ⟨h3.df, u, g1, _, m', σ', u, h1, rfl, h2, g2, h3.mem⟩
          · simp at h1
        | ret =>
          simp only at h1
          split at h1
          · rename_i vs hv
            obtain ⟨u, g1, g2⟩ := results_ok h3 hv
            exact ⟨h3.df, u, g1, _, m', σ', u, h1, rfl, h2, g2, h3.mem⟩
          · simp at h1
    · simp at h
  · simp at h
/-- A function taken in whole. -/
theorem inl_ok (hE : EqOk P E) (hC : COk P C) (hm : P.follows .mixedOrders = true) (n f : Nat) : IOk P C.env f (fun args m k => xfun P E C n f args m k) := by
  intro args m k r h base w0 σ us w hX hu hM
  exact xfun_ok hE hC hm h hX hu hM
def none0 (x : Nat → Value) : Sg := ⟨fun _ => none, fun _ => 0, x, fun _ => 0⟩
theorem rm_nil (w : World) (x : Nat → Value) : RM ⟨w.heap.size, fun _ => False⟩ w (none0 x) [] w := ⟨by intro b k g h; simp at h, by intro b c g k l h; simp at h, (fun b g h => nomatch (show (none : Option Nat) = some g from h)), (by intro b g k h; simp at h), (by intro b g k h; simp at h), Bel.refl _ _, Nat.le_refl _⟩
/-- A function that is called with plain values and answers plain values. -/
theorem top_ok (hE : EqOk P E) (hC : COk P C) (hN : ∀ b w x, C.env b w x) (hm : P.follows .mixedOrders = true) {n f : Nat} {args : List MV} {us : List Value} {v : MV} {u : Value}
    (h : xfun P E C n f args [] (fun v _ => some (v, [])) = some (v, [])) (hu : ∀ σ, RVs σ args us) (hv : ∀ σ u', RV σ v u' → u' = u) (w : World) :
    Calls P f us.toArray w fun e w' => e = .returned u ∧ Below w.heap.size w w' := by
  refine Calls.mono (xfun_ok hE hC hm h (hN _ _ _) (hu (none0 fun _ => undef)) (rm_nil w _)) ?_
  rintro e w' ⟨v', m', σ', u', h1, rfl, _, h2, h3⟩
  simp only [Option.some.injEq, Prod.mk.injEq, and_true] at h1
  subst h1
  exact ⟨by rw [hv σ' u' h2], h3.bel.to⟩
end
end Go.Proofs.Ytppklhfiajjhmaa.Y
