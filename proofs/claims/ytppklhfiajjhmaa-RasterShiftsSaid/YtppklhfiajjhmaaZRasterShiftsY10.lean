/- What is proved: rules for code over the small memory: of what comes out of parts what comes out of the whole, loops by what is kept. Conditions: none but those in each statement. -/
import Derived.Test.YtppklhfiajjhmaaZRasterShiftsY9
namespace Go.Proofs.Ytppklhfiajjhmaa.Y
open Go Go.RowKit
set_option linter.unusedVariables false
set_option linter.unusedSimpArgs false
abbrev Env := Bs → World → (Nat → Value) → Prop
/-- Code, begun so, comes to what S says. -/
def XR (P : Program) (X : Env) (c : Code) (tm : List MV) (m : Mem) (S : XE → List MV → Mem → Prop) : Prop :=
  ∀ base w0 σ a w (Q : Exit → Act → World → Prop), X base w0 σ.x → Rel base w0 σ tm m a w →
    (∀ e tm' m' σ' a' w', S e tm' m' → Ext σ σ' → Rel base w0 σ' tm' m' a' w' → Q e.out a' w') → c.wp P Q a w
/-- A function, called so, comes to what S says. -/
def XF (P : Program) (X : Env) (f : Nat) (args : List MV) (m : Mem) (S : MV → Mem → Prop) : Prop :=
  ∀ base w0 σ us w, X base w0 σ.x → RVs σ args us → RM base w0 σ m w →
    Calls P f us.toArray w fun e w' => ∃ v m' σ' u, S v m' ∧ e = .returned u ∧ Ext σ σ' ∧ RV σ' v u ∧ RM base w0 σ' m' w'
section
variable {P : Program} {E : Eqs} {C : Ctx} {X : Env}
theorem XR.of_x (hE : EqOk P E) (hC : COk P C) (hm : P.follows .mixedOrders = true) {n : Nat} {c : Code} {tm tm' : List MV} {m m' : Mem} {e : XE} {S : XE → List MV → Mem → Prop}
    (h : ∀ k : KE, xcode P E C n c tm m k = k e tm' m') (hS : S e tm' m') : XR P C.env c tm m S := by
  intro base w0 σ a w Q hX hR hK
  refine xcode_ok hE hC hm (n := n) c (k := fun e1 t1 m1 => open Classical in if e1 = e ∧ t1 = tm' ∧ m1 = m' then some (.val undef, []) else none) (r := (.val undef, [])) (by rw [h]; simp) hX hR ?_
  intro e1 t1 m1 σ' a' w' h1 h2 h3
  split at h1
  · rename_i hh
    obtain ⟨rfl, rfl, rfl⟩ := hh
    exact hK _ _ _ _ _ _ hS h2 h3
  · cases h1
theorem XR.mono {c : Code} {tm : List MV} {m : Mem} {S T : XE → List MV → Mem → Prop} (h : XR P X c tm m S) (hST : ∀ e t m, S e t m → T e t m) : XR P X c tm m T :=
  fun base w0 σ a w Q hX hR hK => h base w0 σ a w Q hX hR (fun e t m σ' a' w' hs => hK e t m σ' a' w' (hST e t m hs))
theorem XR.seq {a b : Code} {tm : List MV} {m : Mem} {S : XE → List MV → Mem → Prop}
    (h : XR P X a tm m (fun e tm m => match e with
      | .normal => XR P X b tm m S
      | .exit id => S (.exit id) tm m
      | .ret => S .ret tm m)) : XR P X (.seq a b) tm m S := by
  intro base w0 σ ac w Q hX hR hK
  refine wp_seq (h base w0 σ ac w _ hX hR ?_)
  intro e tm' m' σ' a' w' h1 h2 h3
  cases e with
  | normal => exact h1 base w0 σ' a' w' Q (by rw [h2.x]; exact hX) h3 (fun e t m υ a'' w'' g1 g2 g3 => hK e t m υ a'' w'' g1 (h2.trans g2) g3)
  | exit id => exact hK (.exit id) _ _ σ' a' w' h1 h2 h3
  | ret => exact hK .ret _ _ σ' a' w' h1 h2 h3
theorem XR.block {id : Nat} {c : Code} {tm : List MV} {m : Mem} {S : XE → List MV → Mem → Prop}
    (h : XR P X c tm m (fun e tm m => match e with
      | .normal => S .normal tm m
      | .exit i => if i = id then S .normal tm m else S (.exit i) tm m
      | .ret => S .ret tm m)) : XR P X (.block id c) tm m S := by
  intro base w0 σ ac w Q hX hR hK
  refine wp_block (h base w0 σ ac w _ hX hR ?_)
  intro e tm' m' σ' a' w' h1 h2 h3
  cases e with
  | normal => exact hK .normal _ _ σ' a' w' h1 h2 h3
  | exit i =>
    simp only [XE.out, Exit.inBlock]
    simp only at h1
    split at h1
    · rename_i hi
      rw [if_pos hi]
      exact hK .normal _ _ σ' a' w' h1 h2 h3
    · rename_i hi
      rw [if_neg hi]
      exact hK (.exit i) _ _ σ' a' w' h1 h2 h3
  | ret => exact hK .ret _ _ σ' a' w' h1 h2 h3
theorem XR.cond {t : Nat} {v : Bool} {x y : Code} {tm : List MV} {m : Mem} {S : XE → List MV → Mem → Prop} (hv : tm[t]? = some (.val (.bool v)))
    (h1 : v = true → XR P X x tm m S) (h2 : v = false → XR P X y tm m S) : XR P X (.cond (.tmp t) x y) tm m S := by
  intro base w0 σ a w Q hX hR hK
  obtain ⟨u, g1, g2⟩ := RVs.get t hR.tm hv
  have e1 := g2.val_inv
  subst e1
  have hev : a.eval (.tmp t) = .bool v := by
    show a.tmps.getD t undef = _
    have : a.tmps[t]? = some (.bool v) := by simpa using g1
    simp [Array.getD_eq_getD_getElem?, this]
  refine wp_cond hev ?_
  cases v with
  | true => exact h1 rfl base w0 σ a w Q hX hR hK
  | false => exact h2 rfl base w0 σ a w Q hX hR hK
theorem XR.loop (Inv : Nat → List MV → Mem → Prop) {c : Code} {S : XE → List MV → Mem → Prop}
    (hb : ∀ j tm m, Inv j tm m → XR P X c tm m (fun e tm' m' => match e with
      | .normal => ∃ j', j' < j ∧ Inv j' tm' m'
      | .exit id => S (.exit id) tm' m'
      | .ret => S .ret tm' m')) {j : Nat} {tm : List MV} {m : Mem} (h : Inv j tm m) : XR P X (.loop c) tm m S := by
  intro base w0 σ a w Q hX hR hK b kk cs
  have key : ∀ j tm m σ' a w, Inv j tm m → Ext σ σ' → Rel base w0 σ' tm m a w →
      ∃ e a' w', Q e a' w' ∧ Arrives P (lone (b.at a (.code c :: .inLoop c :: kk)) cs w) b kk cs e a' w' := by
    intro j
    induction j using Nat.strongRecOn with
    | _ j ihj =>
      intro tm m σ' a w hI hx hR
      have hw := hb j tm m hI base w0 σ' a w (fun e a' w' => match e with
        | .normal => ∃ j' tm' m' σ'', j' < j ∧ Inv j' tm' m' ∧ Ext σ σ'' ∧ Rel base w0 σ'' tm' m' a' w'
        | e => Q e a' w') (by rw [hx.x]; exact hX) hR (by
          intro e tm' m' σ'' a' w' h1 h2 h3
          cases e with
          | normal => obtain ⟨j', g1, g2⟩ := h1; exact ⟨j', tm', m', σ'', g1, g2, hx.trans h2, h3⟩
          | exit id => exact hK (.exit id) tm' m' σ'' a' w' h1 (hx.trans h2) h3
          | ret => exact hK .ret tm' m' σ'' a' w' h1 (hx.trans h2) h3)
      obtain ⟨e, a₁, w₁, hq, harr⟩ := hw b (.inLoop c :: kk) cs
      cases e with
      | normal =>
        obtain ⟨j', tm', m', σ'', g0, g1, g2, g3⟩ := hq
        obtain ⟨e₂, a₂, w₂, hq₂, harr₂⟩ := ihj j' g0 tm' m' σ'' a₁ w₁ g1 g2 g3
        exact ⟨e₂, a₂, w₂, hq₂, .of_steps (Steps.trans harr (.one step_inLoop)) harr₂⟩
      | exit id => exact ⟨_, a₁, w₁, hq, .pass (x := .inLoop c) rfl (fun _ _ => .inl (by simp)) harr⟩
      | goto l => exact ⟨_, a₁, w₁, hq, .pass (x := .inLoop c) rfl (fun _ _ => .inl (by simp)) harr⟩
      | ret => exact ⟨_, a₁, w₁, hq, .pass (x := .inLoop c) rfl (fun _ _ => .inl (by simp)) harr⟩
      | panic ch => exact ⟨_, a₁, w₁, hq, .pass (x := .inLoop c) rfl (fun _ _ => .inl (by simp)) harr⟩
      | outgrown => exact ⟨_, a₁, w₁, hq, .pass (x := .inLoop c) rfl (fun _ _ => .inl (by simp)) harr⟩
  obtain ⟨e, a', w', hq, harr⟩ := key j tm m σ a w h (Ext.refl σ) hR
  exact ⟨e, a', w', hq, .of_steps (.one step_loop) harr⟩
theorem XF.of_code {f : Nat} {fn : Func} {c : Code} (hf : P.funcs[f]? = some fn) (hb : fn.body = some c) {args : List MV} {m : Mem} {S : MV → Mem → Prop}
    (h : XR P X c (args ++ List.replicate (fn.ntmps - args.length) (.val undef)) m (fun e tm' m' => match e with
      | .exit _ => False
      | _ => ∃ vs, xres P tm' m' fn.results.toList = some vs ∧ S (xpack vs) m')) : XF P X f args m S := by
  intro base w0 σ us w hX hu hM
  have hl := hu.length
  refine calls_of_wp hf hb (h base w0 σ _ w _ hX ⟨rfl, ?_, hM⟩ ?_)
  · have e : (us.toArray ++ Array.replicate (fn.ntmps - us.toArray.size) undef).toList = us ++ List.replicate (fn.ntmps - args.length) undef := by simp [hl]
    rw [e]
    refine hu.append ?_
    have := RVs.vals (σ := σ) (List.replicate (fn.ntmps - args.length) undef)
    simpa using this
  · intro e tm' m' σ' a' w' h1 h2 h3
    cases e with
    | exit id => exact h1.elim
    | normal =>
      obtain ⟨vs, hv, hs⟩ := h1
      obtain ⟨u, g1, g2⟩ := results_ok h3 hv
      exact ⟨h3.df, u, g1, _, m', σ', u, hs, rfl, h2, g2, h3.mem⟩
    | ret =>
      obtain ⟨vs, hv, hs⟩ := h1
      obtain ⟨u, g1, g2⟩ := results_ok h3 hv
      exact ⟨h3.df, u, g1, _, m', σ', u, hs, rfl, h2, g2, h3.mem⟩
theorem XF.of_x (hE : EqOk P E) (hC : COk P C) (hm : P.follows .mixedOrders = true) {n f : Nat} {args : List MV} {m m' : Mem} {v : MV} {S : MV → Mem → Prop}
    (h : ∀ k : KM, xfun P E C n f args m k = k v m') (hS : S v m') : XF P C.env f args m S := by
  intro base w0 σ us w hX hu hM
  refine Calls.mono (xfun_ok hE hC hm (n := n) (k := fun v1 m1 => open Classical in if v1 = v ∧ m1 = m' then some (.val undef, []) else none) (r := (.val undef, [])) (by rw [h]; simp) hX hu hM) ?_
  rintro e w' ⟨v1, m1, σ', u, h1, h2, h3, h4, h5⟩
  split at h1
  · rename_i hh
    obtain ⟨rfl, rfl⟩ := hh
    exact ⟨_, _, σ', u, hS, h2, h3, h4, h5⟩
  · cases h1
/-- A contract that writes, out of a plain function. -/
abbrev toI (F : List MV → Mem → Option (MV × Mem)) : List MV → Mem → KM → Option Out := fun args m k => match F args m with
  | some (v, m') => k v m'
  | none => none
theorem I_of {F : List MV → Mem → Option (MV × Mem)} {f : Nat} (h : ∀ args m v m', F args m = some (v, m') → XF P X f args m (fun v1 m1 => v1 = v ∧ m1 = m')) : IOk P X f (toI F) := by
  intro args m k r hG base w0 σ us w hX hu hM
  unfold toI at hG
  split at hG
  · rename_i v m' hF
    refine Calls.mono (h args m v m' hF base w0 σ us w hX hu hM) ?_
    rintro e w' ⟨v1, m1, σ', u, ⟨rfl, rfl⟩, h2, h3, h4, h5⟩
    exact ⟨_, _, σ', u, hG, h2, h3, h4, h5⟩
  · cases hG
end
end Go.Proofs.Ytppklhfiajjhmaa.Y
