-- written by a program of this session (a turned copy of the print)
import Derived.Test.YtpoeebngkakmeaaPPilePartsx0
namespace Go.Proofs.Ytpoeebngkakmeaa.PPileParts
open Go.RowKit Go.Proofs.YtpoeebngkakmeaaW.PrintWords Go.Proofs.YtpoeebngkakmeaaW.PrintLast Go.Proofs.YtpoeebngkakmeaaW.PrintMore
attribute [local go_sem] max2_int min2_int max_two min_two max_three min_three max_four min_four   -- for this text's walks alone
set_option linter.unusedVariables false
set_option linter.unusedSimpArgs false

/-! ### pile_Stack: function 32 -/
def toCh (x : S64) : Go.Proofs.Ytpoeebngkakmeaa.PutA.Ch := ⟨x.f0.f0, x.f0.f1, x.f1.f0, x.f1.f1, x.f2.f0, x.f2.f1, x.f3, x.f4⟩
/-- Boxes put one behind the other; none: one doesn't fit. -/
def stackS : Go.Proofs.Ytpoeebngkakmeaa.PutA.St → List S64 → Option Go.Proofs.Ytpoeebngkakmeaa.PutA.St
  | s, [] => some s
  | s, x :: l => if (Go.Proofs.Ytpoeebngkakmeaa.PutA.putS s (toCh x)).2 = true then stackS (Go.Proofs.Ytpoeebngkakmeaa.PutA.putS s (toCh x)).1 l else none
def stackR : Option Go.Proofs.Ytpoeebngkakmeaa.PutA.St → List Int × Int × Int × Int × Int × Int × Bool × Bool
  | some s => (s.ys, s.e, s.tp, s.tn, s.cp, s.cn, s.top, true)
  | none => ([], 0, 0, 0, 0, 0, false, false)
def pile_Stack.f (l0 : List S64) (a1 : Bool) : Option (List Int × Int × Int × Int × Int × Int × Bool × Bool) := if l0.length ≤ 1000 then some (stackR (stackS ⟨[], 0, 0, 0, 0, 0, a1⟩ l0)) else none
theorem putS_len (s : Go.Proofs.Ytpoeebngkakmeaa.PutA.St) (c : Go.Proofs.Ytpoeebngkakmeaa.PutA.Ch) : (Go.Proofs.Ytpoeebngkakmeaa.PutA.putS s c).1.ys.length = s.ys.length + 1 := by
  unfold Go.Proofs.Ytpoeebngkakmeaa.PutA.putS
  split <;> split <;> simp
theorem stack_ret {W : World} {g : Nat} {c0 c1 c2 c3 c4 c5 c6 : Value} {tm : Array Value} {r : Bool} (hf : W.heap[g]? = some (.cells #[c0, c1, c2, c3, c4, c5, c6] 60 (0, 0)))
    (h4 : tm[4]? = some (.pointer (some ⟨g, 0, none⟩))) (h5 : tm[5]? = some (.bool r)) : (results Try.f32 tm).run Try.prog W = .ok (.tuple #[.agg #[c0, c1, c2, c3, c4, c5, c6], .bool r]) W := by
  simp [results, Try.results32, go_sem, World.cell?, hf, h4, h5]
set_option maxHeartbeats 80000000 in
set_option maxRecDepth 100000 in
theorem pile_Stack.calls (A0 : Option Addr) (c0 : Nat) (l0 : List S64) (a1 : Bool) (r1 : List Int) (r2 r3 r4 r5 r6 : Int) (r7 r8 : Bool) (w : World) (hr0 : Kd.C k64 w A0 l0.length l0) (hc0 : l0.length ≤ c0) (h : pile_Stack.f l0 a1 = some (r1, r2, r3, r4, r5, r6, r7, r8)) :
    Calls Try.prog 32 #[.slice A0 l0.length c0, .bool a1] w fun e w' => ∃ v0_ : Value, e = .returned (.tuple #[.agg #[v0_, .int .i64 r2, .int .i64 r3, .int .i64 r4, .int .i64 r5, .int .i64 r6, .bool r7], .bool r8]) ∧ Kd.R (Kd.int .i64) 2 w' w.heap.size (fun _ => True) v0_ r1 ∧ Below w.heap.size w w' := by
  have HR0 := Aside0.mk hr0
  have HC0 := Aside0.mk hc0
  clear hr0 hc0
  unfold pile_Stack.f at h
  rcases Nat.lt_or_ge 1000 l0.length with hl | hl
  · rw [if_neg (by omega)] at h; cases h
  rw [if_pos hl] at h
  have HF := Aside0.mk (Option.some.inj h)
  have HL := Aside0.mk hl
  clear h hl
  go_enter Try.func32, Try.ntmps32
  go_upto_region 2 with fail
  obtain ⟨W1, hW1⟩ : ∃ w_ : World, w_ = (w.alloc (.cells #[.slice none 0 0, .int .i64 0, .int .i64 0, .int .i64 0, .int .i64 0, .int .i64 0, .bool false] 60 (0, 0))).alloc (.cells #[.slice none 0 0, .int .i64 0, .int .i64 0, .int .i64 0, .int .i64 0, .int .i64 0, .bool a1] 60 (0, 0)) := ⟨_, rfl⟩
  have h0 : W1.heap[w.heap.size]? = some (.cells #[.slice none 0 0, .int .i64 0, .int .i64 0, .int .i64 0, .int .i64 0, .int .i64 0, .bool false] 60 (0, 0)) := by rw [hW1]; exact blk_alloc (blk_new w _) _
  have h1 : W1.heap[w.heap.size + 1]? = some (.cells #[.slice none 0 0, .int .i64 0, .int .i64 0, .int .i64 0, .int .i64 0, .int .i64 0, .bool a1] 60 (0, 0)) := by
    have h9 := blk_new (w.alloc (.cells #[.slice none 0 0, .int .i64 0, .int .i64 0, .int .i64 0, .int .i64 0, .int .i64 0, .bool false] 60 (0, 0))) (.cells #[.slice none 0 0, .int .i64 0, .int .i64 0, .int .i64 0, .int .i64 0, .int .i64 0, .bool a1] 60 (0, 0))
    rw [hW1]
    simpa using h9
  have hb1 : Below w.heap.size w W1 := by rw [hW1]; exact below_alloc (below_alloc (Below.refl _ _) _) _
  rw [← hW1]
  clear hW1
  obtain ⟨g, hg⟩ : ∃ n, n = w.heap.size + 1 := ⟨_, rfl⟩
  rw [← hg] at h1 ⊢
  have hP : Go.Proofs.Ytpoeebngkakmeaa.PutA.PW g g [] W1 W1 (.slice none 0 0) [] (Go.Proofs.Ytpoeebngkakmeaa.PutA.St.cells (.slice none 0 0) ⟨[], 0, 0, 0, 0, 0, a1⟩) := ⟨Nat.le_refl _, Below.refl _ _, h1, Kd.R_nil _ _ _ _ _, by simp, List.Pairwise.nil⟩
  have HG := Aside0.mk hg
  have HP := Aside0.mk hP
  have HB1 := Aside0.mk hb1
  have H0 := Aside0.mk h0
  clear hg hP hb1 h0 h1
  go_wp2
  go_loopg [13] (l0.length + 1) (fun kq v13 w' => ∃ (i : Nat) (v : Value) (s : Go.Proofs.Ytpoeebngkakmeaa.PutA.St), v13 = .int .i64 (i : Int) ∧ Aside0 (i + kq = l0.length + 1) ∧ Aside0 (i ≤ l0.length) ∧ Aside0 (Go.Proofs.Ytpoeebngkakmeaa.PutA.PW g g [] W1 w' v s.ys (s.cells v)) ∧ Aside0 (stackS s (l0.drop i) = stackS ⟨[], 0, 0, 0, 0, 0, a1⟩ l0) ∧ Aside0 (s.ys.length = i))
  case atStart => exact ⟨0, _, ⟨[], 0, 0, 0, 0, 0, a1⟩, rfl, ⟨by omega⟩, ⟨by omega⟩, ⟨HP.out⟩, ⟨rfl⟩, ⟨rfl⟩⟩
  case round =>
    obtain ⟨i, v, s, rfl, HK, HI, HQ, HS, HN⟩ := hrel
    obtain ⟨ys, se, tp, tn, cp, cn, top⟩ := s
    have cG := fun o => HQ.out.cell o
    have fG := fun o => HQ.out.frozen o
    have c0 := fun o => blk_cell ((HQ.out.hB.block w.heap.size (by have := HG.out; omega)).trans H0.out) o
    have f0 := fun o => blk_frozen ((HQ.out.hB.block w.heap.size (by have := HG.out; omega)).trans H0.out) o
    unfold Go.Proofs.Ytpoeebngkakmeaa.PutA.St.cells at cG
    simp only at cG
    rcases Nat.lt_or_ge i l0.length with hi | hi
    · have p1 : 0 ≤ (i : Int) := by omega
      have q1 : (i : Int) < (l0.length : Int) := by omega
      obtain ⟨ad, ead, hx_0, hx_1, hx_2, hx_3, hx_4, hx_5, hx_6, hx_7⟩ := at_T64 HR0.out i p1 q1
      cases ead
      have HBr := Aside0.mk (show Below w.heap.size w wr from HB1.out.trans ⟨HQ.out.hB.os, HQ.out.hB.tape, HQ.out.hB.output, HQ.out.hB.size, fun k hk => HQ.out.hB.block k (by have := HG.out; omega)⟩)
      replace hx_0 := (HBr.out.cell (World.block_lt_of_cell? w _ hx_0)).trans hx_0
      replace hx_1 := (HBr.out.cell (World.block_lt_of_cell? w _ hx_1)).trans hx_1
      replace hx_2 := (HBr.out.cell (World.block_lt_of_cell? w _ hx_2)).trans hx_2
      replace hx_3 := (HBr.out.cell (World.block_lt_of_cell? w _ hx_3)).trans hx_3
      replace hx_4 := (HBr.out.cell (World.block_lt_of_cell? w _ hx_4)).trans hx_4
      replace hx_5 := (HBr.out.cell (World.block_lt_of_cell? w _ hx_5)).trans hx_5
      replace hx_6 := (HBr.out.cell (World.block_lt_of_cell? w _ hx_6)).trans hx_6
      replace hx_7 := (HBr.out.cell (World.block_lt_of_cell? w _ hx_7)).trans hx_7
      simp only [Int.toNat_natCast] at hx_0 hx_1 hx_2 hx_3 hx_4 hx_5 hx_6 hx_7
      have hdrop : l0.drop i = rd_T64 l0 (i : Int) :: l0.drop (i + 1) := by
        rw [List.drop_eq_getElem_cons hi]
        congr 1
        unfold rd_T64
        simp [List.getD_eq_getElem?_getD, hi]
      have HD := Aside0.mk hdrop
      clear hdrop
      have HI2 := Aside0.mk hi
      clear hi
      have d1 : decide ((i : Int) < (l0.length : Int)) = true := decide_eq_true q1
      replace p1 := eq_true p1
      replace q1 := eq_true q1
      obtain ⟨x, hx⟩ : ∃ x, rd_T64 l0 (i : Int) = x := ⟨_, rfl⟩
      rw [hx] at hx_0 hx_1 hx_2 hx_3 hx_4 hx_5 hx_6 hx_7
      have HX := Aside0.mk hx
      clear hx
      obtain ⟨q, hq⟩ : ∃ q, (Go.Proofs.Ytpoeebngkakmeaa.PutA.putS ⟨ys, se, tp, tn, cp, cn, top⟩ (toCh x)).2 = q := ⟨_, rfl⟩
      have HQ2 := Aside0.mk hq
      clear hq
      cases gk with
      | zero => exact absurd HK.out (by have := HI2.out; omega)
      | succ k1 =>
      cases q with
      | false =>
        go_upto_region 6 with (go_at_call 42; refine (Go.Proofs.Ytpoeebngkakmeaa.PutB.put_any g g W1 _ v ⟨ys, se, tp, tn, cp, cn, top⟩ (toCh x) (HQ.out.skip _) (by have h1 := HN.out; have h2 := HL.out; have h3 := HI.out; simp only at h1 ⊢; omega)).mono ?_; rintro e9 w5 ⟨rfl, v5, hP5⟩; rw [HQ2.out]; have H5 := Aside0.mk hP5; clear hP5; have c05 := fun o => blk_cell ((H5.out.hB.block w.heap.size (by have := HG.out; omega)).trans H0.out) o; have f05 := fun o => blk_frozen ((H5.out.hB.block w.heap.size (by have := HG.out; omega)).trans H0.out) o)
        have e := HF.out
        rw [← HS.out, HD.out, HX.out] at e
        simp only [stackS, HQ2.out, Bool.false_eq_true, if_false, stackR, Prod.mk.injEq] at e
        obtain ⟨rfl, rfl, rfl, rfl, rfl, rfl, rfl, rfl⟩ := e
        have HB5 := Aside0.mk (show Below w.heap.size w w5 from HB1.out.trans ⟨H5.out.hB.os, H5.out.hB.tape, H5.out.hB.output, H5.out.hB.size, fun k hk => H5.out.hB.block k (by have := HG.out; omega)⟩)
        obtain ⟨A5, c5, e5⟩ := Kd.R_slice H5.out.hR
        subst e5
        have hgB : w5.heap[g]? = some (.cells (Go.Proofs.Ytpoeebngkakmeaa.StkX.pileV A5 _ c5 _ _ _ _ _ _).toArray 60 (0, 0)) := H5.out.hg
        have hrB : w5.heap[w.heap.size]? = some (.cells (Go.Proofs.Ytpoeebngkakmeaa.StkX.pileV none 0 0 0 0 0 0 0 false).toArray 60 (0, 0)) := (H5.out.hB.block w.heap.size (by have := HG.out; omega)).trans H0.out
        refine Go.Proofs.Ytpoeebngkakmeaa.StkX.r6_wp (g := g) (r := w.heap.size) (by have := HG.out; omega) hgB hrB ?_
        intro a' Wf hd4 h4 h5 haf
        simp only [Exit.then]
        refine (by assumption : ∀ (a : Act) (w : World), Code.wp Try.prog Code.ret _ a w → _) a' Wf ?_
        refine wp_ret ?_
        simp only [Exit.inBlock, Exit.then]
        refine bodyPost_ret (stack_ret haf.at_ h4 h5) hd4 ?_
        have hbf : Below w.heap.size w Wf := HB5.out.trans ⟨haf.os, haf.tape, haf.output, haf.size, fun k hk => haf.block k (Nat.lt_of_lt_of_le hk HB5.out.size) (by omega)⟩
        exact ⟨_, rfl, Kd.R_nil _ _ _ _ _, hbf⟩
      | true =>
        go_wp2_with (go_at_call 42; refine (Go.Proofs.Ytpoeebngkakmeaa.PutB.put_any g g W1 _ v ⟨ys, se, tp, tn, cp, cn, top⟩ (toCh x) (HQ.out.skip _) (by have h1 := HN.out; have h2 := HL.out; have h3 := HI.out; simp only at h1 ⊢; omega)).mono ?_; rintro e9 w5 ⟨rfl, v5, hP5⟩; rw [HQ2.out]; have H5 := Aside0.mk hP5; clear hP5)
        go_roundg k1
        case measure => have := HK.out; omega
        case rel =>
          refine ⟨i + 1, v5, (Go.Proofs.Ytpoeebngkakmeaa.PutA.putS ⟨ys, se, tp, tn, cp, cn, top⟩ (toCh x)).1, ?_, ⟨by have := HK.out; omega⟩, ⟨HI2.out⟩, ⟨H5.out⟩, ⟨?_⟩, ⟨by rw [putS_len]; have h1 := HN.out; simp only at h1 ⊢; omega⟩⟩
          · have h1 := HL.out
            have h2 := HI2.out
            first | rfl | (rw [wrap64, show ((i : Int) + 1 + 9223372036854775808) % 18446744073709551616 - 9223372036854775808 = ((i + 1 : Nat) : Int) by omega])
          · have h1 := HS.out
            rw [HD.out, HX.out] at h1
            simp only [stackS, HQ2.out, if_true] at h1
            exact h1
    · have d1 : decide ((i : Int) < (l0.length : Int)) = false := decide_eq_false (by omega)
      have e := HF.out
      have hS := HS.out
      rw [List.drop_of_length_le hi] at hS
      simp only [stackS] at hS
      rw [← hS] at e
      simp only [stackR, Prod.mk.injEq] at e
      obtain ⟨rfl, rfl, rfl, rfl, rfl, rfl, rfl, rfl⟩ := e
      obtain ⟨A9, c9, rfl⟩ := Kd.R_slice HQ.out.hR
      have HB5 := Aside0.mk (show Below w.heap.size w wr from HB1.out.trans ⟨HQ.out.hB.os, HQ.out.hB.tape, HQ.out.hB.output, HQ.out.hB.size, fun k hk => HQ.out.hB.block k (by have := HG.out; omega)⟩)
      have HR9 := Aside0.mk (Kd.R_lower (base' := w.heap.size) HQ.out.hR (by have := HG.out; omega))
      go_upto_region 8 with fail
      have hgB : wr.heap[g]? = some (.cells (Go.Proofs.Ytpoeebngkakmeaa.StkX.pileV A9 ys.length c9 se tp tn cp cn top).toArray 60 (0, 0)) := HQ.out.hg
      have hrB : wr.heap[w.heap.size]? = some (.cells (Go.Proofs.Ytpoeebngkakmeaa.StkX.pileV none 0 0 0 0 0 0 0 false).toArray 60 (0, 0)) := (HQ.out.hB.block w.heap.size (by have := HG.out; omega)).trans H0.out
      refine Go.Proofs.Ytpoeebngkakmeaa.StkX.r8_wp (g := g) (r := w.heap.size) (by have := HG.out; omega) hgB hrB ?_
      intro a' Wf hd4 h4 h5 haf
      simp only [Exit.then]
      refine (by assumption : ∀ (a : Act) (w : World), Code.wp Try.prog Code.ret _ a w → _) a' Wf ?_
      refine wp_ret ?_
      refine bodyPost_ret (stack_ret haf.at_ h4 h5) hd4 ?_
      have hne : ∀ k, (Value.slice A9 ys.length c9).ownBlock = some k → g ≤ k := own_base (Kd.own_of_R HQ.out.hR)
      have r0 : Kd.R (Kd.int .i64) 2 wr w.heap.size (fun k => k ≠ w.heap.size) (.slice A9 ys.length c9) ys := Kd.R_flat (fun h => h) HR9.out (fun k hk _ => by have := hne k hk; have := HG.out; omega)
      have hrf : Kd.R (Kd.int .i64) 2 Wf w.heap.size (fun k => k ≠ w.heap.size) (.slice A9 ys.length c9) ys := Kd.R_step r0 (fun k hk hlt => haf.block k hlt hk)
      have hbf : Below w.heap.size w Wf := HB5.out.trans ⟨haf.os, haf.tape, haf.output, haf.size, fun k hk => haf.block k (Nat.lt_of_lt_of_le hk HB5.out.size) (by omega)⟩
      exact ⟨_, rfl, Kd.R_mono hrf (fun _ _ => trivial), hbf⟩

/-! ### decoupagelaw12_awake: function 31 -/
def decoupagelaw12_awake.f  : Option (Bool) := (pile_Stack.f (([(⟨(⟨0, 0⟩ : S44), (⟨5, 0⟩ : S44), (⟨0, 0⟩ : S44), false, 10⟩ : S64), (⟨(⟨7, 0⟩ : S44), (⟨0, 0⟩ : S44), (⟨0, 0⟩ : S44), false, 10⟩ : S64)] : List (S64))) false).bind fun bt104 => (if bt104.2.2.2.2.2.2.2 = true then (if (bt104.1.length : Int) = 2 then (if 1 < (bt104.1.length : Int) then (some ((rd bt104.1 1) == 17)) else (none)) else (some false)) else (some false))
set_option maxHeartbeats 8000000 in
set_option maxRecDepth 100000 in
theorem decoupagelaw12_awake.calls  (r : Bool) (w : World) (h : decoupagelaw12_awake.f  = some r) :
    Calls Try.prog 31 #[] w fun e w' => e = .returned (.bool r) ∧ Below w.heap.size w w' := by
  have hu44 := Try.underlying44
  have hu64 := Try.underlying64
  have hu60 := Try.underlying60
  have HB := Aside0.mk (Below.refl w.heap.size w)
  have H : ((pile_Stack.f (([(⟨(⟨0, 0⟩ : S44), (⟨5, 0⟩ : S44), (⟨0, 0⟩ : S44), false, 10⟩ : S64), (⟨(⟨7, 0⟩ : S44), (⟨0, 0⟩ : S44), (⟨0, 0⟩ : S44), false, 10⟩ : S64)] : List (S64))) false).bind fun bt104 => (if bt104.2.2.2.2.2.2.2 = true then (if (bt104.1.length : Int) = 2 then (if 1 < (bt104.1.length : Int) then (some ((rd bt104.1 1) == 17)) else (none)) else (some false)) else (some false))) = some r := h
  clear h
  obtain ⟨y101, hy101⟩ : ∃ y_ : List (S64), y_ = (([(⟨(⟨0, 0⟩ : S44), (⟨5, 0⟩ : S44), (⟨0, 0⟩ : S44), false, 10⟩ : S64), (⟨(⟨7, 0⟩ : S44), (⟨0, 0⟩ : S44), (⟨0, 0⟩ : S44), false, 10⟩ : S64)] : List (S64))) := ⟨_, rfl⟩
  replace H : ((pile_Stack.f y101 false).bind fun bt104 => (if bt104.2.2.2.2.2.2.2 = true then (if (bt104.1.length : Int) = 2 then (if 1 < (bt104.1.length : Int) then (some ((rd bt104.1 1) == 17)) else (none)) else (some false)) else (some false))) = some r := by first | (rw [hy101]; with_reducible exact H) | (have H2_ := (Option.bind_some _ _).symm.trans H; rw [hy101]; with_reducible exact H2_) | (have H2_ := (Option.bind_some _ _).symm.trans H; with_reducible exact H2_) | with_reducible exact H | (rw [hy101]; exact H) | exact H
  have Ny101 := Aside0.mk hy101
  clear hy101
  replace H := Option.bind_eq_some_iff.mp H
  obtain ⟨⟨t104, t107, t108, t109, t110, t111, t112, t113⟩, A10, H⟩ := H
  replace H : (if t113 = true then (if (t104.length : Int) = 2 then (if 1 < (t104.length : Int) then (some ((rd t104 1) == 17)) else (none)) else (some false)) else (some false)) = some r := H
  have A1 := Aside0.mk A10
  clear A10
  by_cases c2 : t113 = true
  · subst c2
    have H1 : (if (t104.length : Int) = 2 then (if 1 < (t104.length : Int) then (some ((rd t104 1) == 17)) else (none)) else (some false)) = some r := by rw [if_pos rfl] at H; exact H
    clear H
    have H := H1
    clear H1
    by_cases c3 : (t104.length : Int) = 2
    · rw [if_pos c3] at H
      have c3b0 : ((t104.length : Int) == 2) = true := beq_iff_eq.mpr c3
      have c3b1 : ((t104.length : Int) != 2) = false := bne_eq_false_iff_eq.mpr c3
      clear c3
      by_cases c4 : 1 < (t104.length : Int)
      · rw [if_pos c4] at H
        have c4b0 : decide (1 < (t104.length : Int)) = true := decide_eq_true c4
        have c4b1 : decide (1 < t104.length) = true := decide_eq_true (by omega)
        clear c4
        obtain rfl := Option.some.inj H
        go_enter Try.func31, Try.ntmps31
        go_wp2_with (first | ((with_reducible refine gate_dst (N := 8) rfl ?_); (try (refine gate_guard (by rfl) ?_; dsimp only)); refine Kd.R_lit k64 _ 64 ?hg (N := 8) ?hd (xs := ([(⟨(⟨0, 0⟩ : S44), (⟨5, 0⟩ : S44), (⟨0, 0⟩ : S44), false, 10⟩ : S64), (⟨(⟨7, 0⟩ : S44), (⟨0, 0⟩ : S44), (⟨0, 0⟩ : S44), false, 10⟩ : S64)] : List (S64))) (inner := [.int .i64 0, .int .i64 0, .int .i64 5, .int .i64 0, .int .i64 0, .int .i64 0, .bool false, .int .i64 10, .int .i64 7, .int .i64 0, .int .i64 0, .int .i64 0, .int .i64 0, .int .i64 0, .bool false, .int .i64 10]) (ok := fun _ => True) (okp := fun _ => True) ?hr ?hp (fun _ hk => hk) trivial (Below.refl _ _) (Nat.le_refl _) (by simp) ?_; (case hd => rfl); (case hg => rfl); (case hr => first | (go_simp; done) | (go_simp; rfl)); (case hp => exact (Reps.c8 (show Kd.M k64 _ _ _ (⟨(⟨0, 0⟩ : S44), (⟨5, 0⟩ : S44), (⟨0, 0⟩ : S44), false, 10⟩ : S64) [.int .i64 0, .int .i64 0, .int .i64 5, .int .i64 0, .int .i64 0, .int .i64 0, .bool false, .int .i64 10] from (k64_mkM _ _ _ (⟨(⟨0, 0⟩ : S44), (⟨5, 0⟩ : S44), (⟨0, 0⟩ : S44), false, 10⟩ : S64) )) (Reps.c8 (show Kd.M k64 _ _ _ (⟨(⟨7, 0⟩ : S44), (⟨0, 0⟩ : S44), (⟨0, 0⟩ : S44), false, 10⟩ : S64) [.int .i64 7, .int .i64 0, .int .i64 0, .int .i64 0, .int .i64 0, .int .i64 0, .bool false, .int .i64 10] from (k64_mkM _ _ _ (⟨(⟨7, 0⟩ : S44), (⟨0, 0⟩ : S44), (⟨0, 0⟩ : S44), false, 10⟩ : S64) )) (Reps.none _ _)))); intro v102 w5 ho6 hb hg_ hnew_; clear hg_ hnew_; (first | rw [← Ny101.out] at ho6 | (simp only [Int.reduceToNat] at ho6; rw [← Ny101.out] at ho6)); have n0_ := Aside0.mk (Kd.R_lower ho6 (below_size (by repeat (first | (with_reducible first | exact HB.out | apply below_alloc | apply pw_below_drewN | apply below_drew1) | exact HB.out)))); have n1_ := Aside0.mk (below_step (by repeat (first | (with_reducible first | exact HB.out | apply below_alloc | apply pw_below_drewN | apply below_drew1) | exact HB.out)) hb); clear HB; have HO103 := n0_; have HB := n1_; clear n0_ n1_; clear hb ho6; obtain ⟨Ao7, co7, eo7⟩ := Kd.R_slice HO103.out; subst eo7) | ((with_reducible refine gate_callee (f := 32) rfl ?_); refine goesL_ (some 9) rfl rfl Try.func32 (by kernel_rfl) rfl #[.slice Ao7 y101.length co7, .bool false] rfl (by (try simp only [List.map_toArray, List.map_cons, List.map_nil]); first | done | rfl | (simp only [List.length_drop, List.length_take]; rfl)) ?_; (with_reducible refine (pile_Stack.calls _ _ y101 false t104 t107 t108 t109 t110 t111 t112 true _ ?side1 ?side2 A1.out).mono ?_); (case side1 => repeat (first | exact (Kd.R_reads' HO103.out).2.2 | (with_reducible refine Kd.C_alloc ?_ _) | (with_reducible refine Kd.C_drewN ?_ _) | (with_reducible refine Kd.C_drew ?_))); (case side2 => exact (Kd.R_reads' HO103.out).2.1); rintro e w8 ⟨v105, rfl, ho0, hb⟩; refine ⟨_, rfl, ?_⟩; have n0_ := Aside0.mk (Kd.R_below (by (with_reducible repeat (first | apply Kd.R_alloc | apply Kd.R_drewN | apply Kd.R_drew)); exact HO103.out) hb); have n1_ := Aside0.mk (Kd.R_lower ho0 (below_size (by repeat (first | (with_reducible first | exact HB.out | apply below_alloc | apply pw_below_drewN | apply below_drew1) | exact HB.out)))); have n2_ := Aside0.mk (below_step (by repeat (first | (with_reducible first | exact HB.out | apply below_alloc | apply pw_below_drewN | apply below_drew1) | exact HB.out)) hb); clear HO103; clear HB; have HO103 := n0_; have HO106 := n1_; have HB := n2_; clear n0_ n1_ n2_; (try clear hb); (try clear hb2); (try clear hk); (try clear hi); (try clear ho0)) | ((with_reducible refine gate_dst (N := 1) rfl ?_); (try (refine gate_guard (by rfl) ?_; dsimp only)); refine box_event ?hg (N := 1) ?hd (cs := #[.slice none 0 0, .int .i64 0, .int .i64 0, .int .i64 0, .int .i64 0, .int .i64 0, .bool false]) (t := 60) ?hr ?_; (case hd => rfl); (case hg => rfl); (case hr => first | (go_simp; done) | (go_simp; rfl)); intro gb114 hg w9 hbox hb; have n0_ := Aside0.mk (Kd.R_below (by (with_reducible repeat (first | apply Kd.R_alloc | apply Kd.R_drewN | apply Kd.R_drew)); exact HO103.out) hb); have n1_ := Aside0.mk (Kd.R_below (by (with_reducible repeat (first | apply Kd.R_alloc | apply Kd.R_drewN | apply Kd.R_drew)); exact HO106.out) hb); have n2_ := Aside0.mk (below_step (by repeat (first | (with_reducible first | exact HB.out | apply below_alloc | apply pw_below_drewN | apply below_drew1) | exact HB.out)) hb); have n3_ := Aside0.mk (hbox); have n4_ := Aside0.mk ((by rw [hg]; exact (below_size (by repeat (first | (with_reducible first | exact HB.out | apply below_alloc | apply pw_below_drewN | apply below_drew1) | exact HB.out))) : w.heap.size ≤ gb114)); have n5_ := Aside0.mk ((by rw [hg]; exact (below_size (by repeat (first | (with_reducible first | exact HB.out | apply below_alloc | apply pw_below_drewN | apply below_drew1) | exact HB.out))) : w.heap.size ≤ gb114)); clear HO103; clear HO106; clear HB; have HO103 := n0_; have HO106 := n1_; have HB := n2_; have BK114 := n3_; have GW114 := n4_; have GE114 := n5_; clear n0_ n1_ n2_ n3_ n4_ n5_; clear hb hbox hg; obtain ⟨Ao10, co10, eo10⟩ := Kd.R_slice HO106.out; subst eo10; have hcz11_0 : w9.cell? ⟨gb114, 0, none⟩ = some (.slice none 0 0) := (blk_cell BK114.out 0).trans rfl; have hcz11_1 : w9.cell? ⟨gb114, 1, none⟩ = some (.int .i64 0) := (blk_cell BK114.out 1).trans rfl; have hcz11_2 : w9.cell? ⟨gb114, 2, none⟩ = some (.int .i64 0) := (blk_cell BK114.out 2).trans rfl; have hcz11_3 : w9.cell? ⟨gb114, 3, none⟩ = some (.int .i64 0) := (blk_cell BK114.out 3).trans rfl; have hcz11_4 : w9.cell? ⟨gb114, 4, none⟩ = some (.int .i64 0) := (blk_cell BK114.out 4).trans rfl; have hcz11_5 : w9.cell? ⟨gb114, 5, none⟩ = some (.int .i64 0) := (blk_cell BK114.out 5).trans rfl; have hcz11_6 : w9.cell? ⟨gb114, 6, none⟩ = some (.bool false) := (blk_cell BK114.out 6).trans rfl; have hfz11_0 := blk_frozen BK114.out 0; have hfz11_1 := blk_frozen BK114.out 1; have hfz11_2 := blk_frozen BK114.out 2; have hfz11_3 := blk_frozen BK114.out 3; have hfz11_4 := blk_frozen BK114.out 4; have hfz11_5 := blk_frozen BK114.out 5; have hfz11_6 := blk_frozen BK114.out 6; have p115 : 0 ≤ (1 : Int) := (by omega); have q115 : 1 < (t104.length : Int) := of_decide_eq_true (by first | (with_reducible assumption) | assumption); obtain ⟨ad115, e115, hx115_0⟩ := Kd.at_int (Kd.R_reads' HO106.out).2.2 1 p115 q115; cases e115; (try simp only [show (1 : Int).toNat = 1 from rfl, Nat.reduceMul, Nat.reduceEqDiff, Go.Addr.add, ↓reduceIte] at hx115_0); have qi115 : (1 < t104.length) = True := eq_true (by omega); (try rw [show ((1 : Int)).toNat = 1 from rfl] at hx115_0); have hn115_0 : ad115.block ≠ gb114 := Kd.own_blk (Kd.R_ne HO106.out BK114.out (by decide)); have hn115_1 : ad115.block ≠ gb114 := Kd.own_blk (Kd.R_ne HO106.out BK114.out (by decide)); have hn115_2 : ad115.block ≠ gb114 := Kd.own_blk (Kd.R_ne HO106.out BK114.out (by decide)); have hn115_3 : ad115.block ≠ gb114 := Kd.own_blk (Kd.R_ne HO106.out BK114.out (by decide)); have hn115_4 : ad115.block ≠ gb114 := Kd.own_blk (Kd.R_ne HO106.out BK114.out (by decide)); have hn115_5 : ad115.block ≠ gb114 := Kd.own_blk (Kd.R_ne HO106.out BK114.out (by decide)); have hn115_6 : ad115.block ≠ gb114 := Kd.own_blk (Kd.R_ne HO106.out BK114.out (by decide)); replace hx115_0 := (cell_far (p := ⟨gb114, 0, none⟩) (by first | (rw [add_block]; exact hn115_0) | (show (Addr.add _ _).block ≠ _; rw [add_block]; exact hn115_0) | exact hn115_0) (.slice (some ad115) t104.length co10)).trans hx115_0; replace hx115_0 := (cell_far (p := ⟨gb114, 1, none⟩) (by first | (rw [add_block]; exact hn115_1) | (show (Addr.add _ _).block ≠ _; rw [add_block]; exact hn115_1) | exact hn115_1) (.int .i64 t107)).trans hx115_0; replace hx115_0 := (cell_far (p := ⟨gb114, 2, none⟩) (by first | (rw [add_block]; exact hn115_2) | (show (Addr.add _ _).block ≠ _; rw [add_block]; exact hn115_2) | exact hn115_2) (.int .i64 t108)).trans hx115_0; replace hx115_0 := (cell_far (p := ⟨gb114, 3, none⟩) (by first | (rw [add_block]; exact hn115_3) | (show (Addr.add _ _).block ≠ _; rw [add_block]; exact hn115_3) | exact hn115_3) (.int .i64 t109)).trans hx115_0; replace hx115_0 := (cell_far (p := ⟨gb114, 4, none⟩) (by first | (rw [add_block]; exact hn115_4) | (show (Addr.add _ _).block ≠ _; rw [add_block]; exact hn115_4) | exact hn115_4) (.int .i64 t110)).trans hx115_0; replace hx115_0 := (cell_far (p := ⟨gb114, 5, none⟩) (by first | (rw [add_block]; exact hn115_5) | (show (Addr.add _ _).block ≠ _; rw [add_block]; exact hn115_5) | exact hn115_5) (.int .i64 t111)).trans hx115_0; replace hx115_0 := (cell_far (p := ⟨gb114, 6, none⟩) (by first | (rw [add_block]; exact hn115_6) | (show (Addr.add _ _).block ≠ _; rw [add_block]; exact hn115_6) | exact hn115_6) (.bool t112)).trans hx115_0; clear hn115_0; clear hn115_1; clear hn115_2; clear hn115_3; clear hn115_4; clear hn115_5; clear hn115_6; replace p115 := eq_true p115; replace q115 := eq_true q115))
        go_ret
        exact ⟨by first | rfl | (simp [errW_none, errW_some] <;> rfl) | (simp [*, errW_none, errW_some] <;> rfl), by repeat (first | (with_reducible first | exact HB.out | apply below_alloc | apply pw_below_drewN | apply below_drew1 | refine below_set ?_ GE114.out) | exact HB.out)⟩
      · rw [if_neg c4] at H
        exact absurd H (by simp)
    · rw [if_neg c3] at H
      have c3b0 : ((t104.length : Int) == 2) = false := beq_eq_false_iff_ne.mpr c3
      have c3b1 : ((t104.length : Int) != 2) = true := bne_iff_ne.mpr c3
      obtain rfl := Option.some.inj H
      go_enter Try.func31, Try.ntmps31
      go_wp2_with (first | ((with_reducible refine gate_dst (N := 8) rfl ?_); (try (refine gate_guard (by rfl) ?_; dsimp only)); refine Kd.R_lit k64 _ 64 ?hg (N := 8) ?hd (xs := ([(⟨(⟨0, 0⟩ : S44), (⟨5, 0⟩ : S44), (⟨0, 0⟩ : S44), false, 10⟩ : S64), (⟨(⟨7, 0⟩ : S44), (⟨0, 0⟩ : S44), (⟨0, 0⟩ : S44), false, 10⟩ : S64)] : List (S64))) (inner := [.int .i64 0, .int .i64 0, .int .i64 5, .int .i64 0, .int .i64 0, .int .i64 0, .bool false, .int .i64 10, .int .i64 7, .int .i64 0, .int .i64 0, .int .i64 0, .int .i64 0, .int .i64 0, .bool false, .int .i64 10]) (ok := fun _ => True) (okp := fun _ => True) ?hr ?hp (fun _ hk => hk) trivial (Below.refl _ _) (Nat.le_refl _) (by simp) ?_; (case hd => rfl); (case hg => rfl); (case hr => first | (go_simp; done) | (go_simp; rfl)); (case hp => exact (Reps.c8 (show Kd.M k64 _ _ _ (⟨(⟨0, 0⟩ : S44), (⟨5, 0⟩ : S44), (⟨0, 0⟩ : S44), false, 10⟩ : S64) [.int .i64 0, .int .i64 0, .int .i64 5, .int .i64 0, .int .i64 0, .int .i64 0, .bool false, .int .i64 10] from (k64_mkM _ _ _ (⟨(⟨0, 0⟩ : S44), (⟨5, 0⟩ : S44), (⟨0, 0⟩ : S44), false, 10⟩ : S64) )) (Reps.c8 (show Kd.M k64 _ _ _ (⟨(⟨7, 0⟩ : S44), (⟨0, 0⟩ : S44), (⟨0, 0⟩ : S44), false, 10⟩ : S64) [.int .i64 7, .int .i64 0, .int .i64 0, .int .i64 0, .int .i64 0, .int .i64 0, .bool false, .int .i64 10] from (k64_mkM _ _ _ (⟨(⟨7, 0⟩ : S44), (⟨0, 0⟩ : S44), (⟨0, 0⟩ : S44), false, 10⟩ : S64) )) (Reps.none _ _)))); intro v102 w12 ho13 hb hg_ hnew_; clear hg_ hnew_; (first | rw [← Ny101.out] at ho13 | (simp only [Int.reduceToNat] at ho13; rw [← Ny101.out] at ho13)); have n0_ := Aside0.mk (Kd.R_lower ho13 (below_size (by repeat (first | (with_reducible first | exact HB.out | apply below_alloc | apply pw_below_drewN | apply below_drew1) | exact HB.out)))); have n1_ := Aside0.mk (below_step (by repeat (first | (with_reducible first | exact HB.out | apply below_alloc | apply pw_below_drewN | apply below_drew1) | exact HB.out)) hb); clear HB; have HO103 := n0_; have HB := n1_; clear n0_ n1_; clear hb ho13; obtain ⟨Ao14, co14, eo14⟩ := Kd.R_slice HO103.out; subst eo14) | ((with_reducible refine gate_callee (f := 32) rfl ?_); refine goesL_ (some 9) rfl rfl Try.func32 (by kernel_rfl) rfl #[.slice Ao14 y101.length co14, .bool false] rfl (by (try simp only [List.map_toArray, List.map_cons, List.map_nil]); first | done | rfl | (simp only [List.length_drop, List.length_take]; rfl)) ?_; (with_reducible refine (pile_Stack.calls _ _ y101 false t104 t107 t108 t109 t110 t111 t112 true _ ?side1 ?side2 A1.out).mono ?_); (case side1 => repeat (first | exact (Kd.R_reads' HO103.out).2.2 | (with_reducible refine Kd.C_alloc ?_ _) | (with_reducible refine Kd.C_drewN ?_ _) | (with_reducible refine Kd.C_drew ?_))); (case side2 => exact (Kd.R_reads' HO103.out).2.1); rintro e w15 ⟨v105, rfl, ho0, hb⟩; refine ⟨_, rfl, ?_⟩; have n0_ := Aside0.mk (Kd.R_below (by (with_reducible repeat (first | apply Kd.R_alloc | apply Kd.R_drewN | apply Kd.R_drew)); exact HO103.out) hb); have n1_ := Aside0.mk (Kd.R_lower ho0 (below_size (by repeat (first | (with_reducible first | exact HB.out | apply below_alloc | apply pw_below_drewN | apply below_drew1) | exact HB.out)))); have n2_ := Aside0.mk (below_step (by repeat (first | (with_reducible first | exact HB.out | apply below_alloc | apply pw_below_drewN | apply below_drew1) | exact HB.out)) hb); clear HO103; clear HB; have HO103 := n0_; have HO106 := n1_; have HB := n2_; clear n0_ n1_ n2_; (try clear hb); (try clear hb2); (try clear hk); (try clear hi); (try clear ho0)) | ((with_reducible refine gate_dst (N := 1) rfl ?_); (try (refine gate_guard (by rfl) ?_; dsimp only)); refine box_event ?hg (N := 1) ?hd (cs := #[.slice none 0 0, .int .i64 0, .int .i64 0, .int .i64 0, .int .i64 0, .int .i64 0, .bool false]) (t := 60) ?hr ?_; (case hd => rfl); (case hg => rfl); (case hr => first | (go_simp; done) | (go_simp; rfl)); intro gb114 hg w16 hbox hb; have n0_ := Aside0.mk (Kd.R_below (by (with_reducible repeat (first | apply Kd.R_alloc | apply Kd.R_drewN | apply Kd.R_drew)); exact HO103.out) hb); have n1_ := Aside0.mk (Kd.R_below (by (with_reducible repeat (first | apply Kd.R_alloc | apply Kd.R_drewN | apply Kd.R_drew)); exact HO106.out) hb); have n2_ := Aside0.mk (below_step (by repeat (first | (with_reducible first | exact HB.out | apply below_alloc | apply pw_below_drewN | apply below_drew1) | exact HB.out)) hb); have n3_ := Aside0.mk (hbox); have n4_ := Aside0.mk ((by rw [hg]; exact (below_size (by repeat (first | (with_reducible first | exact HB.out | apply below_alloc | apply pw_below_drewN | apply below_drew1) | exact HB.out))) : w.heap.size ≤ gb114)); have n5_ := Aside0.mk ((by rw [hg]; exact (below_size (by repeat (first | (with_reducible first | exact HB.out | apply below_alloc | apply pw_below_drewN | apply below_drew1) | exact HB.out))) : w.heap.size ≤ gb114)); clear HO103; clear HO106; clear HB; have HO103 := n0_; have HO106 := n1_; have HB := n2_; have BK114 := n3_; have GW114 := n4_; have GE114 := n5_; clear n0_ n1_ n2_ n3_ n4_ n5_; clear hb hbox hg; obtain ⟨Ao17, co17, eo17⟩ := Kd.R_slice HO106.out; subst eo17; have hcz18_0 : w16.cell? ⟨gb114, 0, none⟩ = some (.slice none 0 0) := (blk_cell BK114.out 0).trans rfl; have hcz18_1 : w16.cell? ⟨gb114, 1, none⟩ = some (.int .i64 0) := (blk_cell BK114.out 1).trans rfl; have hcz18_2 : w16.cell? ⟨gb114, 2, none⟩ = some (.int .i64 0) := (blk_cell BK114.out 2).trans rfl; have hcz18_3 : w16.cell? ⟨gb114, 3, none⟩ = some (.int .i64 0) := (blk_cell BK114.out 3).trans rfl; have hcz18_4 : w16.cell? ⟨gb114, 4, none⟩ = some (.int .i64 0) := (blk_cell BK114.out 4).trans rfl; have hcz18_5 : w16.cell? ⟨gb114, 5, none⟩ = some (.int .i64 0) := (blk_cell BK114.out 5).trans rfl; have hcz18_6 : w16.cell? ⟨gb114, 6, none⟩ = some (.bool false) := (blk_cell BK114.out 6).trans rfl; have hfz18_0 := blk_frozen BK114.out 0; have hfz18_1 := blk_frozen BK114.out 1; have hfz18_2 := blk_frozen BK114.out 2; have hfz18_3 := blk_frozen BK114.out 3; have hfz18_4 := blk_frozen BK114.out 4; have hfz18_5 := blk_frozen BK114.out 5; have hfz18_6 := blk_frozen BK114.out 6))
      go_ret
      exact ⟨by first | rfl | (simp [errW_none, errW_some] <;> rfl) | (simp [*, errW_none, errW_some] <;> rfl), by repeat (first | (with_reducible first | exact HB.out | apply below_alloc | apply pw_below_drewN | apply below_drew1 | refine below_set ?_ GE114.out) | exact HB.out)⟩
  · replace c2 := Bool.eq_false_iff.mpr c2
    subst c2
    have H1 : (some false) = some r := by rw [if_neg (show ¬ (false = true) by decide)] at H; exact H
    clear H
    have H := H1
    clear H1
    obtain rfl := Option.some.inj H
    go_enter Try.func31, Try.ntmps31
    go_wp2_with (first | ((with_reducible refine gate_dst (N := 8) rfl ?_); (try (refine gate_guard (by rfl) ?_; dsimp only)); refine Kd.R_lit k64 _ 64 ?hg (N := 8) ?hd (xs := ([(⟨(⟨0, 0⟩ : S44), (⟨5, 0⟩ : S44), (⟨0, 0⟩ : S44), false, 10⟩ : S64), (⟨(⟨7, 0⟩ : S44), (⟨0, 0⟩ : S44), (⟨0, 0⟩ : S44), false, 10⟩ : S64)] : List (S64))) (inner := [.int .i64 0, .int .i64 0, .int .i64 5, .int .i64 0, .int .i64 0, .int .i64 0, .bool false, .int .i64 10, .int .i64 7, .int .i64 0, .int .i64 0, .int .i64 0, .int .i64 0, .int .i64 0, .bool false, .int .i64 10]) (ok := fun _ => True) (okp := fun _ => True) ?hr ?hp (fun _ hk => hk) trivial (Below.refl _ _) (Nat.le_refl _) (by simp) ?_; (case hd => rfl); (case hg => rfl); (case hr => first | (go_simp; done) | (go_simp; rfl)); (case hp => exact (Reps.c8 (show Kd.M k64 _ _ _ (⟨(⟨0, 0⟩ : S44), (⟨5, 0⟩ : S44), (⟨0, 0⟩ : S44), false, 10⟩ : S64) [.int .i64 0, .int .i64 0, .int .i64 5, .int .i64 0, .int .i64 0, .int .i64 0, .bool false, .int .i64 10] from (k64_mkM _ _ _ (⟨(⟨0, 0⟩ : S44), (⟨5, 0⟩ : S44), (⟨0, 0⟩ : S44), false, 10⟩ : S64) )) (Reps.c8 (show Kd.M k64 _ _ _ (⟨(⟨7, 0⟩ : S44), (⟨0, 0⟩ : S44), (⟨0, 0⟩ : S44), false, 10⟩ : S64) [.int .i64 7, .int .i64 0, .int .i64 0, .int .i64 0, .int .i64 0, .int .i64 0, .bool false, .int .i64 10] from (k64_mkM _ _ _ (⟨(⟨7, 0⟩ : S44), (⟨0, 0⟩ : S44), (⟨0, 0⟩ : S44), false, 10⟩ : S64) )) (Reps.none _ _)))); intro v102 w19 ho20 hb hg_ hnew_; clear hg_ hnew_; (first | rw [← Ny101.out] at ho20 | (simp only [Int.reduceToNat] at ho20; rw [← Ny101.out] at ho20)); have n0_ := Aside0.mk (Kd.R_lower ho20 (below_size (by repeat (first | (with_reducible first | exact HB.out | apply below_alloc | apply pw_below_drewN | apply below_drew1) | exact HB.out)))); have n1_ := Aside0.mk (below_step (by repeat (first | (with_reducible first | exact HB.out | apply below_alloc | apply pw_below_drewN | apply below_drew1) | exact HB.out)) hb); clear HB; have HO103 := n0_; have HB := n1_; clear n0_ n1_; clear hb ho20; obtain ⟨Ao21, co21, eo21⟩ := Kd.R_slice HO103.out; subst eo21) | ((with_reducible refine gate_callee (f := 32) rfl ?_); refine goesL_ (some 9) rfl rfl Try.func32 (by kernel_rfl) rfl #[.slice Ao21 y101.length co21, .bool false] rfl (by (try simp only [List.map_toArray, List.map_cons, List.map_nil]); first | done | rfl | (simp only [List.length_drop, List.length_take]; rfl)) ?_; (with_reducible refine (pile_Stack.calls _ _ y101 false t104 t107 t108 t109 t110 t111 t112 false _ ?side1 ?side2 A1.out).mono ?_); (case side1 => repeat (first | exact (Kd.R_reads' HO103.out).2.2 | (with_reducible refine Kd.C_alloc ?_ _) | (with_reducible refine Kd.C_drewN ?_ _) | (with_reducible refine Kd.C_drew ?_))); (case side2 => exact (Kd.R_reads' HO103.out).2.1); rintro e w22 ⟨v105, rfl, ho0, hb⟩; refine ⟨_, rfl, ?_⟩; have n0_ := Aside0.mk (Kd.R_below (by (with_reducible repeat (first | apply Kd.R_alloc | apply Kd.R_drewN | apply Kd.R_drew)); exact HO103.out) hb); have n1_ := Aside0.mk (Kd.R_lower ho0 (below_size (by repeat (first | (with_reducible first | exact HB.out | apply below_alloc | apply pw_below_drewN | apply below_drew1) | exact HB.out)))); have n2_ := Aside0.mk (below_step (by repeat (first | (with_reducible first | exact HB.out | apply below_alloc | apply pw_below_drewN | apply below_drew1) | exact HB.out)) hb); clear HO103; clear HB; have HO103 := n0_; have HO106 := n1_; have HB := n2_; clear n0_ n1_ n2_; (try clear hb); (try clear hb2); (try clear hk); (try clear hi); (try clear ho0)) | ((with_reducible refine gate_dst (N := 1) rfl ?_); (try (refine gate_guard (by rfl) ?_; dsimp only)); refine box_event ?hg (N := 1) ?hd (cs := #[.slice none 0 0, .int .i64 0, .int .i64 0, .int .i64 0, .int .i64 0, .int .i64 0, .bool false]) (t := 60) ?hr ?_; (case hd => rfl); (case hg => rfl); (case hr => first | (go_simp; done) | (go_simp; rfl)); intro gb114 hg w23 hbox hb; have n0_ := Aside0.mk (Kd.R_below (by (with_reducible repeat (first | apply Kd.R_alloc | apply Kd.R_drewN | apply Kd.R_drew)); exact HO103.out) hb); have n1_ := Aside0.mk (Kd.R_below (by (with_reducible repeat (first | apply Kd.R_alloc | apply Kd.R_drewN | apply Kd.R_drew)); exact HO106.out) hb); have n2_ := Aside0.mk (below_step (by repeat (first | (with_reducible first | exact HB.out | apply below_alloc | apply pw_below_drewN | apply below_drew1) | exact HB.out)) hb); have n3_ := Aside0.mk (hbox); have n4_ := Aside0.mk ((by rw [hg]; exact (below_size (by repeat (first | (with_reducible first | exact HB.out | apply below_alloc | apply pw_below_drewN | apply below_drew1) | exact HB.out))) : w.heap.size ≤ gb114)); have n5_ := Aside0.mk ((by rw [hg]; exact (below_size (by repeat (first | (with_reducible first | exact HB.out | apply below_alloc | apply pw_below_drewN | apply below_drew1) | exact HB.out))) : w.heap.size ≤ gb114)); clear HO103; clear HO106; clear HB; have HO103 := n0_; have HO106 := n1_; have HB := n2_; have BK114 := n3_; have GW114 := n4_; have GE114 := n5_; clear n0_ n1_ n2_ n3_ n4_ n5_; clear hb hbox hg; obtain ⟨Ao24, co24, eo24⟩ := Kd.R_slice HO106.out; subst eo24; have hcz25_0 : w23.cell? ⟨gb114, 0, none⟩ = some (.slice none 0 0) := (blk_cell BK114.out 0).trans rfl; have hcz25_1 : w23.cell? ⟨gb114, 1, none⟩ = some (.int .i64 0) := (blk_cell BK114.out 1).trans rfl; have hcz25_2 : w23.cell? ⟨gb114, 2, none⟩ = some (.int .i64 0) := (blk_cell BK114.out 2).trans rfl; have hcz25_3 : w23.cell? ⟨gb114, 3, none⟩ = some (.int .i64 0) := (blk_cell BK114.out 3).trans rfl; have hcz25_4 : w23.cell? ⟨gb114, 4, none⟩ = some (.int .i64 0) := (blk_cell BK114.out 4).trans rfl; have hcz25_5 : w23.cell? ⟨gb114, 5, none⟩ = some (.int .i64 0) := (blk_cell BK114.out 5).trans rfl; have hcz25_6 : w23.cell? ⟨gb114, 6, none⟩ = some (.bool false) := (blk_cell BK114.out 6).trans rfl; have hfz25_0 := blk_frozen BK114.out 0; have hfz25_1 := blk_frozen BK114.out 1; have hfz25_2 := blk_frozen BK114.out 2; have hfz25_3 := blk_frozen BK114.out 3; have hfz25_4 := blk_frozen BK114.out 4; have hfz25_5 := blk_frozen BK114.out 5; have hfz25_6 := blk_frozen BK114.out 6))
    go_ret
    exact ⟨by first | rfl | (simp [errW_none, errW_some] <;> rfl) | (simp [*, errW_none, errW_some] <;> rfl), by repeat (first | (with_reducible first | exact HB.out | apply below_alloc | apply pw_below_drewN | apply below_drew1 | refine below_set ?_ GE114.out) | exact HB.out)⟩

end Go.Proofs.Ytpoeebngkakmeaa.PPileParts
