/- What is proved: a board that is none shows nothing. Conditions: none but those in each statement. -/
import Derived.Test.YtppklhfiajjhmaaZTilesNilUiB
import Derived.Test.YtppklhfiajjhmaaZTilesNilAskWords
namespace Go.Proofs.Ytppklhfiajjhmaa.Ti
open Go Go.RowKit Go.Proofs.Ytppklhfiajjhmaa.Y Go.Proofs.Ytppklhfiajjhmaa.AskWords
set_option linter.unusedVariables false
set_option linter.unusedSimpArgs false
noncomputable def D1 : Ctx := addQ C13 33 awakeG
noncomputable def D2 : Ctx := addI D1 38 (inlG Try.prog E D1 3 38)
noncomputable def D3 : Ctx := addI D2 42 (inlG Try.prog E D2 3 42)
theorem D1_ok : COk Try.prog D1 := addQ_ok C13_ok awakeG_ok (fnOk_of Try.func33 (by kernel_rfl) (by kernel_rfl))
theorem D2_ok : COk Try.prog D2 := addI_ok D1_ok (inl_ok E_ok D1_ok mixed _ _) (fnOk_of Try.func38 (by kernel_rfl) (by kernel_rfl))
theorem D3_ok : COk Try.prog D3 := addI_ok D2_ok (inl_ok E_ok D2_ok mixed _ _) (fnOk_of Try.func42 (by kernel_rfl) (by kernel_rfl))
set_option maxRecDepth 100000 in
theorem nil_x (n : Nat) (row k : Int) : xfun Try.prog E D3 3 13 [.xs 0 n, iv row, iv k] [] fin = bif decide ((n : Int) > 20) then some (.val (.bool true), []) else some (.val (.bool true), []) := by kernel_rfl
theorem TilesNil_any (A : Option Addr) (n c : Nat) (row k : Int) (w : World) : Calls Try.prog 13 #[.slice A n c, .int .i64 row, .int .i64 k] w (IsTrue w) := by
  have hx : xfun Try.prog E D3 3 13 [.xs 0 n, iv row, iv k] [] fin = some (.val (.bool true), []) := by
    rw [nil_x]
    cases decide ((n : Int) > 20) <;> rfl
  have hu : RVs (none0 fun _ => .slice A n c) [.xs 0 n, iv row, iv k] [.slice A n c, .int .i64 row, .int .i64 k] := by
    simp only [RVs, RV]
    exact ⟨_, _, rfl, ⟨rfl, A, c, rfl⟩, _, _, rfl, rfl, _, _, rfl, rfl, rfl⟩
  refine Calls.mono (xfun_ok E_ok D3_ok mixed hx trivial hu (rm_nil w _)) ?_
  rintro e w' ⟨v, m', σ', u, h1, rfl, h3, h4, h5⟩
  simp only [Option.some.injEq, Prod.mk.injEq, and_true] at h1
  subst h1
  simp only [RV] at h4
  subst h4
  exact ⟨rfl, h5.bel.to⟩
end Go.Proofs.Ytppklhfiajjhmaa.Ti
