-- written by a program of this session (a turned copy of the print)
import Derived.Test.YtpoeebngkakmeaaPPileApartx0
namespace Go.Proofs.Ytpoeebngkakmeaa.PPileApart
open Go.RowKit Go.Proofs.YtpoeebngkakmeaaW.PrintWords Go.Proofs.YtpoeebngkakmeaaW.PrintLast Go.Proofs.YtpoeebngkakmeaaW.PrintMore
attribute [local go_sem] max2_int min2_int max_two min_two max_three min_three max_four min_four   -- for this text's walks alone
set_option linter.unusedVariables false
set_option linter.unusedSimpArgs false

/-! ### pile_Stack: function 32 -/
def toCh (x : S64) : Go.Proofs.Ytpoeebngkakmeaa.PutA.Ch := ⟨x.f0.f0, x.f0.f1, x.f1.f0, x.f1.f1, x.f2.f0, x.f2.f1, x.f3, x.f4⟩
/-- Boxes put one behind the other; none: one doesn't fit. -/
def stackS : Go.Proofs.Ytpoeebngkakmeaa.PutA.St → List S64 → Option Go.Proofs.Ytpoeebngkakmeaa.PutA.St
  | s, [] => some s
  | s, x :: l => if (Go.Proofs.Ytpoeebngkakmeaa.PutA.putS s (toCh x)).2 = true then stackS (Go.Proofs.Ytpoeebngkakmeaa.PutA.putS s (toCh x)).1 l else none
def stackR : Option Go.Proofs.Ytpoeebngkakmeaa.PutA.St → List Int × Int × Int × Int × Int × Int × Bool × Bool
  | some s => (s.ys, s.e, s.tp, s.tn, s.cp, s.cn, s.top, true)
  | none => ([], 0, 0, 0, 0, 0, false, false)
def pile_Stack.f (l0 : List S64) (a1 : Bool) : Option (List Int × Int × Int × Int × Int × Int × Bool × Bool) := if l0.length ≤ 1000 then some (stackR (stackS ⟨[], 0, 0, 0, 0, 0, a1⟩ l0)) else none
theorem putS_len (s : Go.Proofs.Ytpoeebngkakmeaa.PutA.St) (c : Go.Proofs.Ytpoeebngkakmeaa.PutA.Ch) : (Go.Proofs.Ytpoeebngkakmeaa.PutA.putS s c).1.ys.length = s.ys.length + 1 := by
  unfold Go.Proofs.Ytpoeebngkakmeaa.PutA.putS
  split <;> split <;> simp
theorem stack_ret {W : World} {g : Nat} {c0 c1 c2 c3 c4 c5 c6 : Value} {tm : Array Value} {r : Bool} (hf : W.heap[g]? = some (.cells #[c0, c1, c2, c3, c4, c5, c6] 60 (0, 0)))
    (h4 : tm[4]? = some (.pointer (some ⟨g, 0, none⟩))) (h5 : tm[5]? = some (.bool r)) : (results Try.f32 tm).run Try.prog W = .ok (.tuple #[.agg #[c0, c1, c2, c3, c4, c5, c6], .bool r]) W := by
  simp [results, Try.results32, go_sem, World.cell?, hf, h4, h5]
set_option maxHeartbeats 80000000 in
set_option maxRecDepth 100000 in
theorem pile_Stack.calls (A0 : Option Addr) (c0 : Nat) (l0 : List S64) (a1 : Bool) (r1 : List Int) (r2 r3 r4 r5 r6 : Int) (r7 r8 : Bool) (w : World) (hr0 : Kd.C k64 w A0 l0.length l0) (hc0 : l0.length ≤ c0) (h : pile_Stack.f l0 a1 = some (r1, r2, r3, r4, r5, r6, r7, r8)) :
    Calls Try.prog 32 #[.slice A0 l0.length c0, .bool a1] w fun e w' => ∃ v0_ : Value, e = .returned (.tuple #[.agg #[v0_, .int .i64 r2, .int .i64 r3, .int .i64 r4, .int .i64 r5, .int .i64 r6, .bool r7], .bool r8]) ∧ Kd.R (Kd.int .i64) 2 w' w.heap.size (fun _ => True) v0_ r1 ∧ Below w.heap.size w w' := by
  have HR0 := Aside0.mk hr0
  have HC0 := Aside0.mk hc0
  clear hr0 hc0
  unfold pile_Stack.f at h
  rcases Nat.lt_or_ge 1000 l0.length with hl | hl
  · rw [if_neg (by omega)] at h; cases h
  rw [if_pos hl] at h
  have HF := Aside0.mk (Option.some.inj h)
  have HL := Aside0.mk hl
  clear h hl
  go_enter Try.func32, Try.ntmps32
  go_upto_region 2 with fail
  obtain ⟨W1, hW1⟩ : ∃ w_ : World, w_ = (w.alloc (.cells #[.slice none 0 0, .int .i64 0, .int .i64 0, .int .i64 0, .int .i64 0, .int .i64 0, .bool false] 60 (0, 0))).alloc (.cells #[.slice none 0 0, .int .i64 0, .int .i64 0, .int .i64 0, .int .i64 0, .int .i64 0, .bool a1] 60 (0, 0)) := ⟨_, rfl⟩
  have h0 : W1.heap[w.heap.size]? = some (.cells #[.slice none 0 0, .int .i64 0, .int .i64 0, .int .i64 0, .int .i64 0, .int .i64 0, .bool false] 60 (0, 0)) := by rw [hW1]; exact blk_alloc (blk_new w _) _
  have h1 : W1.heap[w.heap.size + 1]? = some (.cells #[.slice none 0 0, .int .i64 0, .int .i64 0, .int .i64 0, .int .i64 0, .int .i64 0, .bool a1] 60 (0, 0)) := by
    have h9 := blk_new (w.alloc (.cells #[.slice none 0 0, .int .i64 0, .int .i64 0, .int .i64 0, .int .i64 0, .int .i64 0, .bool false] 60 (0, 0))) (.cells #[.slice none 0 0, .int .i64 0, .int .i64 0, .int .i64 0, .int .i64 0, .int .i64 0, .bool a1] 60 (0, 0))
    rw [hW1]
    simpa using h9
  have hb1 : Below w.heap.size w W1 := by rw [hW1]; exact below_alloc (below_alloc (Below.refl _ _) _) _
  rw [← hW1]
  clear hW1
  obtain ⟨g, hg⟩ : ∃ n, n = w.heap.size + 1 := ⟨_, rfl⟩
  rw [← hg] at h1 ⊢
  have hP : Go.Proofs.Ytpoeebngkakmeaa.PutA.PW g g [] W1 W1 (.slice none 0 0) [] (Go.Proofs.Ytpoeebngkakmeaa.PutA.St.cells (.slice none 0 0) ⟨[], 0, 0, 0, 0, 0, a1⟩) := ⟨Nat.le_refl _, Below.refl _ _, h1, Kd.R_nil _ _ _ _ _, by simp, List.Pairwise.nil⟩
  have HG := Aside0.mk hg
  have HP := Aside0.mk hP
  have HB1 := Aside0.mk hb1
  have H0 := Aside0.mk h0
  clear hg hP hb1 h0 h1
  go_wp2
  go_loopg [13] (l0.length + 1) (fun kq v13 w' => ∃ (i : Nat) (v : Value) (s : Go.Proofs.Ytpoeebngkakmeaa.PutA.St), v13 = .int .i64 (i : Int) ∧ Aside0 (i + kq = l0.length + 1) ∧ Aside0 (i ≤ l0.length) ∧ Aside0 (Go.Proofs.Ytpoeebngkakmeaa.PutA.PW g g [] W1 w' v s.ys (s.cells v)) ∧ Aside0 (stackS s (l0.drop i) = stackS ⟨[], 0, 0, 0, 0, 0, a1⟩ l0) ∧ Aside0 (s.ys.length = i))
  case atStart => exact ⟨0, _, ⟨[], 0, 0, 0, 0, 0, a1⟩, rfl, ⟨by omega⟩, ⟨by omega⟩, ⟨HP.out⟩, ⟨rfl⟩, ⟨rfl⟩⟩
  case round =>
    obtain ⟨i, v, s, rfl, HK, HI, HQ, HS, HN⟩ := hrel
    obtain ⟨ys, se, tp, tn, cp, cn, top⟩ := s
    have cG := fun o => HQ.out.cell o
    have fG := fun o => HQ.out.frozen o
    have c0 := fun o => blk_cell ((HQ.out.hB.block w.heap.size (by have := HG.out; omega)).trans H0.out) o
    have f0 := fun o => blk_frozen ((HQ.out.hB.block w.heap.size (by have := HG.out; omega)).trans H0.out) o
    unfold Go.Proofs.Ytpoeebngkakmeaa.PutA.St.cells at cG
    simp only at cG
    rcases Nat.lt_or_ge i l0.length with hi | hi
    · have p1 : 0 ≤ (i : Int) := by omega
      have q1 : (i : Int) < (l0.length : Int) := by omega
      obtain ⟨ad, ead, hx_0, hx_1, hx_2, hx_3, hx_4, hx_5, hx_6, hx_7⟩ := at_T64 HR0.out i p1 q1
      cases ead
      have HBr := Aside0.mk (show Below w.heap.size w wr from HB1.out.trans ⟨HQ.out.hB.os, HQ.out.hB.tape, HQ.out.hB.output, HQ.out.hB.size, fun k hk => HQ.out.hB.block k (by have := HG.out; omega)⟩)
      replace hx_0 := (HBr.out.cell (World.block_lt_of_cell? w _ hx_0)).trans hx_0
      replace hx_1 := (HBr.out.cell (World.block_lt_of_cell? w _ hx_1)).trans hx_1
      replace hx_2 := (HBr.out.cell (World.block_lt_of_cell? w _ hx_2)).trans hx_2
      replace hx_3 := (HBr.out.cell (World.block_lt_of_cell? w _ hx_3)).trans hx_3
      replace hx_4 := (HBr.out.cell (World.block_lt_of_cell? w _ hx_4)).trans hx_4
      replace hx_5 := (HBr.out.cell (World.block_lt_of_cell? w _ hx_5)).trans hx_5
      replace hx_6 := (HBr.out.cell (World.block_lt_of_cell? w _ hx_6)).trans hx_6
      replace hx_7 := (HBr.out.cell (World.block_lt_of_cell? w _ hx_7)).trans hx_7
      simp only [Int.toNat_natCast] at hx_0 hx_1 hx_2 hx_3 hx_4 hx_5 hx_6 hx_7
      have hdrop : l0.drop i = rd_T64 l0 (i : Int) :: l0.drop (i + 1) := by
        rw [List.drop_eq_getElem_cons hi]
        congr 1
        unfold rd_T64
        simp [List.getD_eq_getElem?_getD, hi]
      have HD := Aside0.mk hdrop
      clear hdrop
      have HI2 := Aside0.mk hi
      clear hi
      have d1 : decide ((i : Int) < (l0.length : Int)) = true := decide_eq_true q1
      replace p1 := eq_true p1
      replace q1 := eq_true q1
      obtain ⟨x, hx⟩ : ∃ x, rd_T64 l0 (i : Int) = x := ⟨_, rfl⟩
      rw [hx] at hx_0 hx_1 hx_2 hx_3 hx_4 hx_5 hx_6 hx_7
      have HX := Aside0.mk hx
      clear hx
      obtain ⟨q, hq⟩ : ∃ q, (Go.Proofs.Ytpoeebngkakmeaa.PutA.putS ⟨ys, se, tp, tn, cp, cn, top⟩ (toCh x)).2 = q := ⟨_, rfl⟩
      have HQ2 := Aside0.mk hq
      clear hq
      cases gk with
      | zero => exact absurd HK.out (by have := HI2.out; omega)
      | succ k1 =>
      cases q with
      | false =>
        go_upto_region 6 with (go_at_call 42; refine (Go.Proofs.Ytpoeebngkakmeaa.PutB.put_any g g W1 _ v ⟨ys, se, tp, tn, cp, cn, top⟩ (toCh x) (HQ.out.skip _) (by have h1 := HN.out; have h2 := HL.out; have h3 := HI.out; simp only at h1 ⊢; omega)).mono ?_; rintro e9 w5 ⟨rfl, v5, hP5⟩; rw [HQ2.out]; have H5 := Aside0.mk hP5; clear hP5; have c05 := fun o => blk_cell ((H5.out.hB.block w.heap.size (by have := HG.out; omega)).trans H0.out) o; have f05 := fun o => blk_frozen ((H5.out.hB.block w.heap.size (by have := HG.out; omega)).trans H0.out) o)
        have e := HF.out
        rw [← HS.out, HD.out, HX.out] at e
        simp only [stackS, HQ2.out, Bool.false_eq_true, if_false, stackR, Prod.mk.injEq] at e
        obtain ⟨rfl, rfl, rfl, rfl, rfl, rfl, rfl, rfl⟩ := e
        have HB5 := Aside0.mk (show Below w.heap.size w w5 from HB1.out.trans ⟨H5.out.hB.os, H5.out.hB.tape, H5.out.hB.output, H5.out.hB.size, fun k hk => H5.out.hB.block k (by have := HG.out; omega)⟩)
        obtain ⟨A5, c5, e5⟩ := Kd.R_slice H5.out.hR
        subst e5
        have hgB : w5.heap[g]? = some (.cells (Go.Proofs.Ytpoeebngkakmeaa.StkX.pileV A5 _ c5 _ _ _ _ _ _).toArray 60 (0, 0)) := H5.out.hg
        have hrB : w5.heap[w.heap.size]? = some (.cells (Go.Proofs.Ytpoeebngkakmeaa.StkX.pileV none 0 0 0 0 0 0 0 false).toArray 60 (0, 0)) := (H5.out.hB.block w.heap.size (by have := HG.out; omega)).trans H0.out
        refine Go.Proofs.Ytpoeebngkakmeaa.StkX.r6_wp (g := g) (r := w.heap.size) (by have := HG.out; omega) hgB hrB ?_
        intro a' Wf hd4 h4 h5 haf
        simp only [Exit.then]
        refine (by assumption : ∀ (a : Act) (w : World), Code.wp Try.prog Code.ret _ a w → _) a' Wf ?_
        refine wp_ret ?_
        simp only [Exit.inBlock, Exit.then]
        refine bodyPost_ret (stack_ret haf.at_ h4 h5) hd4 ?_
        have hbf : Below w.heap.size w Wf := HB5.out.trans ⟨haf.os, haf.tape, haf.output, haf.size, fun k hk => haf.block k (Nat.lt_of_lt_of_le hk HB5.out.size) (by omega)⟩
        exact ⟨_, rfl, Kd.R_nil _ _ _ _ _, hbf⟩
      | true =>
        go_wp2_with (go_at_call 42; refine (Go.Proofs.Ytpoeebngkakmeaa.PutB.put_any g g W1 _ v ⟨ys, se, tp, tn, cp, cn, top⟩ (toCh x) (HQ.out.skip _) (by have h1 := HN.out; have h2 := HL.out; have h3 := HI.out; simp only at h1 ⊢; omega)).mono ?_; rintro e9 w5 ⟨rfl, v5, hP5⟩; rw [HQ2.out]; have H5 := Aside0.mk hP5; clear hP5)
        go_roundg k1
        case measure => have := HK.out; omega
        case rel =>
          refine ⟨i + 1, v5, (Go.Proofs.Ytpoeebngkakmeaa.PutA.putS ⟨ys, se, tp, tn, cp, cn, top⟩ (toCh x)).1, ?_, ⟨by have := HK.out; omega⟩, ⟨HI2.out⟩, ⟨H5.out⟩, ⟨?_⟩, ⟨by rw [putS_len]; have h1 := HN.out; simp only at h1 ⊢; omega⟩⟩
          · have h1 := HL.out
            have h2 := HI2.out
            first | rfl | (rw [wrap64, show ((i : Int) + 1 + 9223372036854775808) % 18446744073709551616 - 9223372036854775808 = ((i + 1 : Nat) : Int) by omega])
          · have h1 := HS.out
            rw [HD.out, HX.out] at h1
            simp only [stackS, HQ2.out, if_true] at h1
            exact h1
    · have d1 : decide ((i : Int) < (l0.length : Int)) = false := decide_eq_false (by omega)
      have e := HF.out
      have hS := HS.out
      rw [List.drop_of_length_le hi] at hS
      simp only [stackS] at hS
      rw [← hS] at e
      simp only [stackR, Prod.mk.injEq] at e
      obtain ⟨rfl, rfl, rfl, rfl, rfl, rfl, rfl, rfl⟩ := e
      obtain ⟨A9, c9, rfl⟩ := Kd.R_slice HQ.out.hR
      have HB5 := Aside0.mk (show Below w.heap.size w wr from HB1.out.trans ⟨HQ.out.hB.os, HQ.out.hB.tape, HQ.out.hB.output, HQ.out.hB.size, fun k hk => HQ.out.hB.block k (by have := HG.out; omega)⟩)
      have HR9 := Aside0.mk (Kd.R_lower (base' := w.heap.size) HQ.out.hR (by have := HG.out; omega))
      go_upto_region 8 with fail
      have hgB : wr.heap[g]? = some (.cells (Go.Proofs.Ytpoeebngkakmeaa.StkX.pileV A9 ys.length c9 se tp tn cp cn top).toArray 60 (0, 0)) := HQ.out.hg
      have hrB : wr.heap[w.heap.size]? = some (.cells (Go.Proofs.Ytpoeebngkakmeaa.StkX.pileV none 0 0 0 0 0 0 0 false).toArray 60 (0, 0)) := (HQ.out.hB.block w.heap.size (by have := HG.out; omega)).trans H0.out
      refine Go.Proofs.Ytpoeebngkakmeaa.StkX.r8_wp (g := g) (r := w.heap.size) (by have := HG.out; omega) hgB hrB ?_
      intro a' Wf hd4 h4 h5 haf
      simp only [Exit.then]
      refine (by assumption : ∀ (a : Act) (w : World), Code.wp Try.prog Code.ret _ a w → _) a' Wf ?_
      refine wp_ret ?_
      refine bodyPost_ret (stack_ret haf.at_ h4 h5) hd4 ?_
      have hne : ∀ k, (Value.slice A9 ys.length c9).ownBlock = some k → g ≤ k := own_base (Kd.own_of_R HQ.out.hR)
      have r0 : Kd.R (Kd.int .i64) 2 wr w.heap.size (fun k => k ≠ w.heap.size) (.slice A9 ys.length c9) ys := Kd.R_flat (fun h => h) HR9.out (fun k hk _ => by have := hne k hk; have := HG.out; omega)
      have hrf : Kd.R (Kd.int .i64) 2 Wf w.heap.size (fun k => k ≠ w.heap.size) (.slice A9 ys.length c9) ys := Kd.R_step r0 (fun k hk hlt => haf.block k hlt hk)
      have hbf : Below w.heap.size w Wf := HB5.out.trans ⟨haf.os, haf.tape, haf.output, haf.size, fun k hk => haf.block k (Nat.lt_of_lt_of_le hk HB5.out.size) (by omega)⟩
      exact ⟨_, rfl, Kd.R_mono hrf (fun _ _ => trivial), hbf⟩

/-! ### decoupagelaw12_awake: function 31 -/
def decoupagelaw12_awake.f  : Option (Bool) := (pile_Stack.f (([(⟨(⟨0, 0⟩ : S44), (⟨5, 0⟩ : S44), (⟨0, 0⟩ : S44), false, 10⟩ : S64), (⟨(⟨7, 0⟩ : S44), (⟨0, 0⟩ : S44), (⟨0, 0⟩ : S44), false, 10⟩ : S64)] : List (S64))) false).bind fun bt104 => (if bt104.2.2.2.2.2.2.2 = true then (if (bt104.1.length : Int) = 2 then (if 1 < (bt104.1.length : Int) then (some ((rd bt104.1 1) == 17)) else (none)) else (some false)) else (some false))
set_option maxHeartbeats 8000000 in
set_option maxRecDepth 100000 in
theorem decoupagelaw12_awake.calls  (r : Bool) (w : World) (h : decoupagelaw12_awake.f  = some r) :
    Calls Try.prog 31 #[] w fun e w' => e = .returned (.bool r) ∧ Below w.heap.size w w' := by
  have hu44 := Try.underlying44
  have hu64 := Try.underlying64
  have hu60 := Try.underlying60
  have HB := Aside0.mk (Below.refl w.heap.size w)
  have H : ((pile_Stack.f (([(⟨(⟨0, 0⟩ : S44), (⟨5, 0⟩ : S44), (⟨0, 0⟩ : S44), false, 10⟩ : S64), (⟨(⟨7, 0⟩ : S44), (⟨0, 0⟩ : S44), (⟨0, 0⟩ : S44), false, 10⟩ : S64)] : List (S64))) false).bind fun bt104 => (if bt104.2.2.2.2.2.2.2 = true then (if (bt104.1.length : Int) = 2 then (if 1 < (bt104.1.length : Int) then (some ((rd bt104.1 1) == 17)) else (none)) else (some false)) else (some false))) = some r := h
  clear h
  obtain ⟨y101, hy101⟩ : ∃ y_ : List (S64), y_ = (([(⟨(⟨0, 0⟩ : S44), (⟨5, 0⟩ : S44), (⟨0, 0⟩ : S44), false, 10⟩ : S64), (⟨(⟨7, 0⟩ : S44), (⟨0, 0⟩ : S44), (⟨0, 0⟩ : S44), false, 10⟩ : S64)] : List (S64))) := ⟨_, rfl⟩
  replace H : ((pile_Stack.f y101 false).bind fun bt104 => (if bt104.2.2.2.2.2.2.2 = true then (if (bt104.1.length : Int) = 2 then (if 1 < (bt104.1.length : Int) then (some ((rd bt104.1 1) == 17)) else (none)) else (some false)) else (some false))) = some r := by first | (rw [hy101]; with_reducible exact H) | (have H2_ := (Option.bind_some _ _).symm.trans H; rw [hy101]; with_reducible exact H2_) | (have H2_ := (Option.bind_some _ _).symm.trans H; with_reducible exact H2_) | with_reducible exact H | (rw [hy101]; exact H) | exact H
  have Ny101 := Aside0.mk hy101
  clear hy101
  replace H := Option.bind_eq_some_iff.mp H
  obtain ⟨⟨t104, t107, t108, t109, t110, t111, t112, t113⟩, A10, H⟩ := H
  replace H : (if t113 = true then (if (t104.length : Int) = 2 then (if 1 < (t104.length : Int) then (some ((rd t104 1) == 17)) else (none)) else (some false)) else (some false)) = some r := H
  have A1 := Aside0.mk A10
  clear A10
  by_cases c2 : t113 = true
  · subst c2
    have H1 : (if (t104.length : Int) = 2 then (if 1 < (t104.length : Int) then (some ((rd t104 1) == 17)) else (none)) else (some false)) = some r := by rw [if_pos rfl] at H; exact H
    clear H
    have H := H1
    clear H1
    by_cases c3 : (t104.length : Int) = 2
    · rw [if_pos c3] at H
      have c3b0 : ((t104.length : Int) == 2) = true := beq_iff_eq.mpr c3
      have c3b1 : ((t104.length : Int) != 2) = false := bne_eq_false_iff_eq.mpr c3
      clear c3
      by_cases c4 : 1 < (t104.length : Int)
      · rw [if_pos c4] at H
        have c4b0 : decide (1 < (t104.length : Int)) = true := decide_eq_true c4
        have c4b1 : decide (1 < t104.length) = true := decide_eq_true (by omega)
        clear c4
        obtain rfl := Option.some.inj H
        go_enter Try.func31, Try.ntmps31
        go_wp2_with (first | ((with_reducible refine gate_dst (N := 8) rfl ?_); (try (refine gate_guard (by rfl) ?_; dsimp only)); refine Kd.R_lit k64 _ 64 ?hg (N := 8) ?hd (xs := ([(⟨(⟨0, 0⟩ : S44), (⟨5, 0⟩ : S44), (⟨0, 0⟩ : S44), false, 10⟩ : S64), (⟨(⟨7, 0⟩ : S44), (⟨0, 0⟩ : S44), (⟨0, 0⟩ : S44), false, 10⟩ : S64)] : List (S64))) (inner := [.int .i64 0, .int .i64 0, .int .i64 5, .int .i64 0, .int .i64 0, .int .i64 0, .bool false, .int .i64 10, .int .i64 7, .int .i64 0, .int .i64 0, .int .i64 0, .int .i64 0, .int .i64 0, .bool false, .int .i64 10]) (ok := fun _ => True) (okp := fun _ => True) ?hr ?hp (fun _ hk => hk) trivial (Below.refl _ _) (Nat.le_refl _) (by simp) ?_; (case hd => rfl); (case hg => rfl); (case hr => first | (go_simp; done) | (go_simp; rfl)); (case hp => exact (Reps.c8 (show Kd.M k64 _ _ _ (⟨(⟨0, 0⟩ : S44), (⟨5, 0⟩ : S44), (⟨0, 0⟩ : S44), false, 10⟩ : S64) [.int .i64 0, .int .i64 0, .int .i64 5, .int .i64 0, .int .i64 0, .int .i64 0, .bool false, .int .i64 10] from (k64_mkM _ _ _ (⟨(⟨0, 0⟩ : S44), (⟨5, 0⟩ : S44), (⟨0, 0⟩ : S44), false, 10⟩ : S64) )) (Reps.c8 (show Kd.M k64 _ _ _ (⟨(⟨7, 0⟩ : S44), (⟨0, 0⟩ : S44), (⟨0, 0⟩ : S44), false, 10⟩ : S64) [.int .i64 7, .int .i64 0, .int .i64 0, .int .i64 0, .int .i64 0, .int .i64 0, .bool false, .int .i64 10] from (k64_mkM _ _ _ (⟨(⟨7, 0⟩ : S44), (⟨0, 0⟩ : S44), (⟨0, 0⟩ : S44), false, 10⟩ : S64) )) (Reps.none _ _)))); intro v102 w5 ho6 hb hg_ hnew_; clear hg_ hnew_; (first | rw [← Ny101.out] at ho6 | (simp only [Int.reduceToNat] at ho6; rw [← Ny101.out] at ho6)); have n0_ := Aside0.mk (Kd.R_lower ho6 (below_size (by repeat (first | (with_reducible first | exact HB.out | apply below_alloc | apply pw_below_drewN | apply below_drew1) | exact HB.out)))); have n1_ := Aside0.mk (below_step (by repeat (first | (with_reducible first | exact HB.out | apply below_alloc | apply pw_below_drewN | apply below_drew1) | exact HB.out)) hb); clear HB; have HO103 := n0_; have HB := n1_; clear n0_ n1_; clear hb ho6; obtain ⟨Ao7, co7, eo7⟩ := Kd.R_slice HO103.out; subst eo7) | ((with_reducible refine gate_callee (f := 32) rfl ?_); refine goesL_ (some 9) rfl rfl Try.func32 (by kernel_rfl) rfl #[.slice Ao7 y101.length co7, .bool false] rfl (by (try simp only [List.map_toArray, List.map_cons, List.map_nil]); first | done | rfl | (simp only [List.length_drop, List.length_take]; rfl)) ?_; (with_reducible refine (pile_Stack.calls _ _ y101 false t104 t107 t108 t109 t110 t111 t112 true _ ?side1 ?side2 A1.out).mono ?_); (case side1 => repeat (first | exact (Kd.R_reads' HO103.out).2.2 | (with_reducible refine Kd.C_alloc ?_ _) | (with_reducible refine Kd.C_drewN ?_ _) | (with_reducible refine Kd.C_drew ?_))); (case side2 => exact (Kd.R_reads' HO103.out).2.1); rintro e w8 ⟨v105, rfl, ho0, hb⟩; refine ⟨_, rfl, ?_⟩; have n0_ := Aside0.mk (Kd.R_below (by (with_reducible repeat (first | apply Kd.R_alloc | apply Kd.R_drewN | apply Kd.R_drew)); exact HO103.out) hb); have n1_ := Aside0.mk (Kd.R_lower ho0 (below_size (by repeat (first | (with_reducible first | exact HB.out | apply below_alloc | apply pw_below_drewN | apply below_drew1) | exact HB.out)))); have n2_ := Aside0.mk (below_step (by repeat (first | (with_reducible first | exact HB.out | apply below_alloc | apply pw_below_drewN | apply below_drew1) | exact HB.out)) hb); clear HO103; clear HB; have HO103 := n0_; have HO106 := n1_; have HB := n2_; clear n0_ n1_ n2_; (try clear hb); (try clear hb2); (try clear hk); (try clear hi); (try clear ho0)) | ((with_reducible refine gate_dst (N := 1) rfl ?_); (try (refine gate_guard (by rfl) ?_; dsimp only)); refine box_event ?hg (N := 1) ?hd (cs := #[.slice none 0 0, .int .i64 0, .int .i64 0, .int .i64 0, .int .i64 0, .int .i64 0, .bool false]) (t := 60) ?hr ?_; (case hd => rfl); (case hg => rfl); (case hr => first | (go_simp; done) | (go_simp; rfl)); intro gb114 hg w9 hbox hb; have n0_ := Aside0.mk (Kd.R_below (by (with_reducible repeat (first | apply Kd.R_alloc | apply Kd.R_drewN | apply Kd.R_drew)); exact HO103.out) hb); have n1_ := Aside0.mk (Kd.R_below (by (with_reducible repeat (first | apply Kd.R_alloc | apply Kd.R_drewN | apply Kd.R_drew)); exact HO106.out) hb); have n2_ := Aside0.mk (below_step (by repeat (first | (with_reducible first | exact HB.out | apply below_alloc | apply pw_below_drewN | apply below_drew1) | exact HB.out)) hb); have n3_ := Aside0.mk (hbox); have n4_ := Aside0.mk ((by rw [hg]; exact (below_size (by repeat (first | (with_reducible first | exact HB.out | apply below_alloc | apply pw_below_drewN | apply below_drew1) | exact HB.out))) : w.heap.size ≤ gb114)); have n5_ := Aside0.mk ((by rw [hg]; exact (below_size (by repeat (first | (with_reducible first | exact HB.out | apply below_alloc | apply pw_below_drewN | apply below_drew1) | exact HB.out))) : w.heap.size ≤ gb114)); clear HO103; clear HO106; clear HB; have HO103 := n0_; have HO106 := n1_; have HB := n2_; have BK114 := n3_; have GW114 := n4_; have GE114 := n5_; clear n0_ n1_ n2_ n3_ n4_ n5_; clear hb hbox hg; obtain ⟨Ao10, co10, eo10⟩ := Kd.R_slice HO106.out; subst eo10; have hcz11_0 : w9.cell? ⟨gb114, 0, none⟩ = some (.slice none 0 0) := (blk_cell BK114.out 0).trans rfl; have hcz11_1 : w9.cell? ⟨gb114, 1, none⟩ = some (.int .i64 0) := (blk_cell BK114.out 1).trans rfl; have hcz11_2 : w9.cell? ⟨gb114, 2, none⟩ = some (.int .i64 0) := (blk_cell BK114.out 2).trans rfl; have hcz11_3 : w9.cell? ⟨gb114, 3, none⟩ = some (.int .i64 0) := (blk_cell BK114.out 3).trans rfl; have hcz11_4 : w9.cell? ⟨gb114, 4, none⟩ = some (.int .i64 0) := (blk_cell BK114.out 4).trans rfl; have hcz11_5 : w9.cell? ⟨gb114, 5, none⟩ = some (.int .i64 0) := (blk_cell BK114.out 5).trans rfl; have hcz11_6 : w9.cell? ⟨gb114, 6, none⟩ = some (.bool false) := (blk_cell BK114.out 6).trans rfl; have hfz11_0 := blk_frozen BK114.out 0; have hfz11_1 := blk_frozen BK114.out 1; have hfz11_2 := blk_frozen BK114.out 2; have hfz11_3 := blk_frozen BK114.out 3; have hfz11_4 := blk_frozen BK114.out 4; have hfz11_5 := blk_frozen BK114.out 5; have hfz11_6 := blk_frozen BK114.out 6; have p115 : 0 ≤ (1 : Int) := (by omega); have q115 : 1 < (t104.length : Int) := of_decide_eq_true (by first | (with_reducible assumption) | assumption); obtain ⟨ad115, e115, hx115_0⟩ := Kd.at_int (Kd.R_reads' HO106.out).2.2 1 p115 q115; cases e115; (try simp only [show (1 : Int).toNat = 1 from rfl, Nat.reduceMul, Nat.reduceEqDiff, Go.Addr.add, ↓reduceIte] at hx115_0); have qi115 : (1 < t104.length) = True := eq_true (by omega); (try rw [show ((1 : Int)).toNat = 1 from rfl] at hx115_0); have hn115_0 : ad115.block ≠ gb114 := Kd.own_blk (Kd.R_ne HO106.out BK114.out (by decide)); have hn115_1 : ad115.block ≠ gb114 := Kd.own_blk (Kd.R_ne HO106.out BK114.out (by decide)); have hn115_2 : ad115.block ≠ gb114 := Kd.own_blk (Kd.R_ne HO106.out BK114.out (by decide)); have hn115_3 : ad115.block ≠ gb114 := Kd.own_blk (Kd.R_ne HO106.out BK114.out (by decide)); have hn115_4 : ad115.block ≠ gb114 := Kd.own_blk (Kd.R_ne HO106.out BK114.out (by decide)); have hn115_5 : ad115.block ≠ gb114 := Kd.own_blk (Kd.R_ne HO106.out BK114.out (by decide)); have hn115_6 : ad115.block ≠ gb114 := Kd.own_blk (Kd.R_ne HO106.out BK114.out (by decide)); replace hx115_0 := (cell_far (p := ⟨gb114, 0, none⟩) (by first | (rw [add_block]; exact hn115_0) | (show (Addr.add _ _).block ≠ _; rw [add_block]; exact hn115_0) | exact hn115_0) (.slice (some ad115) t104.length co10)).trans hx115_0; replace hx115_0 := (cell_far (p := ⟨gb114, 1, none⟩) (by first | (rw [add_block]; exact hn115_1) | (show (Addr.add _ _).block ≠ _; rw [add_block]; exact hn115_1) | exact hn115_1) (.int .i64 t107)).trans hx115_0; replace hx115_0 := (cell_far (p := ⟨gb114, 2, none⟩) (by first | (rw [add_block]; exact hn115_2) | (show (Addr.add _ _).block ≠ _; rw [add_block]; exact hn115_2) | exact hn115_2) (.int .i64 t108)).trans hx115_0; replace hx115_0 := (cell_far (p := ⟨gb114, 3, none⟩) (by first | (rw [add_block]; exact hn115_3) | (show (Addr.add _ _).block ≠ _; rw [add_block]; exact hn115_3) | exact hn115_3) (.int .i64 t109)).trans hx115_0; replace hx115_0 := (cell_far (p := ⟨gb114, 4, none⟩) (by first | (rw [add_block]; exact hn115_4) | (show (Addr.add _ _).block ≠ _; rw [add_block]; exact hn115_4) | exact hn115_4) (.int .i64 t110)).trans hx115_0; replace hx115_0 := (cell_far (p := ⟨gb114, 5, none⟩) (by first | (rw [add_block]; exact hn115_5) | (show (Addr.add _ _).block ≠ _; rw [add_block]; exact hn115_5) | exact hn115_5) (.int .i64 t111)).trans hx115_0; replace hx115_0 := (cell_far (p := ⟨gb114, 6, none⟩) (by first | (rw [add_block]; exact hn115_6) | (show (Addr.add _ _).block ≠ _; rw [add_block]; exact hn115_6) | exact hn115_6) (.bool t112)).trans hx115_0; clear hn115_0; clear hn115_1; clear hn115_2; clear hn115_3; clear hn115_4; clear hn115_5; clear hn115_6; replace p115 := eq_true p115; replace q115 := eq_true q115))
        go_ret
        exact ⟨by first | rfl | (simp [errW_none, errW_some] <;> rfl) | (simp [*, errW_none, errW_some] <;> rfl), by repeat (first | (with_reducible first | exact HB.out | apply below_alloc | apply pw_below_drewN | apply below_drew1 | refine below_set ?_ GE114.out) | exact HB.out)⟩
      · rw [if_neg c4] at H
        exact absurd H (by simp)
    · rw [if_neg c3] at H
      have c3b0 : ((t104.length : Int) == 2) = false := beq_eq_false_iff_ne.mpr c3
      have c3b1 : ((t104.length : Int) != 2) = true := bne_iff_ne.mpr c3
      obtain rfl := Option.some.inj H
      go_enter Try.func31, Try.ntmps31
      go_wp2_with (first | ((with_reducible refine gate_dst (N := 8) rfl ?_); (try (refine gate_guard (by rfl) ?_; dsimp only)); refine Kd.R_lit k64 _ 64 ?hg (N := 8) ?hd (xs := ([(⟨(⟨0, 0⟩ : S44), (⟨5, 0⟩ : S44), (⟨0, 0⟩ : S44), false, 10⟩ : S64), (⟨(⟨7, 0⟩ : S44), (⟨0, 0⟩ : S44), (⟨0, 0⟩ : S44), false, 10⟩ : S64)] : List (S64))) (inner := [.int .i64 0, .int .i64 0, .int .i64 5, .int .i64 0, .int .i64 0, .int .i64 0, .bool false, .int .i64 10, .int .i64 7, .int .i64 0, .int .i64 0, .int .i64 0, .int .i64 0, .int .i64 0, .bool false, .int .i64 10]) (ok := fun _ => True) (okp := fun _ => True) ?hr ?hp (fun _ hk => hk) trivial (Below.refl _ _) (Nat.le_refl _) (by simp) ?_; (case hd => rfl); (case hg => rfl); (case hr => first | (go_simp; done) | (go_simp; rfl)); (case hp => exact (Reps.c8 (show Kd.M k64 _ _ _ (⟨(⟨0, 0⟩ : S44), (⟨5, 0⟩ : S44), (⟨0, 0⟩ : S44), false, 10⟩ : S64) [.int .i64 0, .int .i64 0, .int .i64 5, .int .i64 0, .int .i64 0, .int .i64 0, .bool false, .int .i64 10] from (k64_mkM _ _ _ (⟨(⟨0, 0⟩ : S44), (⟨5, 0⟩ : S44), (⟨0, 0⟩ : S44), false, 10⟩ : S64) )) (Reps.c8 (show Kd.M k64 _ _ _ (⟨(⟨7, 0⟩ : S44), (⟨0, 0⟩ : S44), (⟨0, 0⟩ : S44), false, 10⟩ : S64) [.int .i64 7, .int .i64 0, .int .i64 0, .int .i64 0, .int .i64 0, .int .i64 0, .bool false, .int .i64 10] from (k64_mkM _ _ _ (⟨(⟨7, 0⟩ : S44), (⟨0, 0⟩ : S44), (⟨0, 0⟩ : S44), false, 10⟩ : S64) )) (Reps.none _ _)))); intro v102 w12 ho13 hb hg_ hnew_; clear hg_ hnew_; (first | rw [← Ny101.out] at ho13 | (simp only [Int.reduceToNat] at ho13; rw [← Ny101.out] at ho13)); have n0_ := Aside0.mk (Kd.R_lower ho13 (below_size (by repeat (first | (with_reducible first | exact HB.out | apply below_alloc | apply pw_below_drewN | apply below_drew1) | exact HB.out)))); have n1_ := Aside0.mk (below_step (by repeat (first | (with_reducible first | exact HB.out | apply below_alloc | apply pw_below_drewN | apply below_drew1) | exact HB.out)) hb); clear HB; have HO103 := n0_; have HB := n1_; clear n0_ n1_; clear hb ho13; obtain ⟨Ao14, co14, eo14⟩ := Kd.R_slice HO103.out; subst eo14) | ((with_reducible refine gate_callee (f := 32) rfl ?_); refine goesL_ (some 9) rfl rfl Try.func32 (by kernel_rfl) rfl #[.slice Ao14 y101.length co14, .bool false] rfl (by (try simp only [List.map_toArray, List.map_cons, List.map_nil]); first | done | rfl | (simp only [List.length_drop, List.length_take]; rfl)) ?_; (with_reducible refine (pile_Stack.calls _ _ y101 false t104 t107 t108 t109 t110 t111 t112 true _ ?side1 ?side2 A1.out).mono ?_); (case side1 => repeat (first | exact (Kd.R_reads' HO103.out).2.2 | (with_reducible refine Kd.C_alloc ?_ _) | (with_reducible refine Kd.C_drewN ?_ _) | (with_reducible refine Kd.C_drew ?_))); (case side2 => exact (Kd.R_reads' HO103.out).2.1); rintro e w15 ⟨v105, rfl, ho0, hb⟩; refine ⟨_, rfl, ?_⟩; have n0_ := Aside0.mk (Kd.R_below (by (with_reducible repeat (first | apply Kd.R_alloc | apply Kd.R_drewN | apply Kd.R_drew)); exact HO103.out) hb); have n1_ := Aside0.mk (Kd.R_lower ho0 (below_size (by repeat (first | (with_reducible first | exact HB.out | apply below_alloc | apply pw_below_drewN | apply below_drew1) | exact HB.out)))); have n2_ := Aside0.mk (below_step (by repeat (first | (with_reducible first | exact HB.out | apply below_alloc | apply pw_below_drewN | apply below_drew1) | exact HB.out)) hb); clear HO103; clear HB; have HO103 := n0_; have HO106 := n1_; have HB := n2_; clear n0_ n1_ n2_; (try clear hb); (try clear hb2); (try clear hk); (try clear hi); (try clear ho0)) | ((with_reducible refine gate_dst (N := 1) rfl ?_); (try (refine gate_guard (by rfl) ?_; dsimp only)); refine box_event ?hg (N := 1) ?hd (cs := #[.slice none 0 0, .int .i64 0, .int .i64 0, .int .i64 0, .int .i64 0, .int .i64 0, .bool false]) (t := 60) ?hr ?_; (case hd => rfl); (case hg => rfl); (case hr => first | (go_simp; done) | (go_simp; rfl)); intro gb114 hg w16 hbox hb; have n0_ := Aside0.mk (Kd.R_below (by (with_reducible repeat (first | apply Kd.R_alloc | apply Kd.R_drewN | apply Kd.R_drew)); exact HO103.out) hb); have n1_ := Aside0.mk (Kd.R_below (by (with_reducible repeat (first | apply Kd.R_alloc | apply Kd.R_drewN | apply Kd.R_drew)); exact HO106.out) hb); have n2_ := Aside0.mk (below_step (by repeat (first | (with_reducible first | exact HB.out | apply below_alloc | apply pw_below_drewN | apply below_drew1) | exact HB.out)) hb); have n3_ := Aside0.mk (hbox); have n4_ := Aside0.mk ((by rw [hg]; exact (below_size (by repeat (first | (with_reducible first | exact HB.out | apply below_alloc | apply pw_below_drewN | apply below_drew1) | exact HB.out))) : w.heap.size ≤ gb114)); have n5_ := Aside0.mk ((by rw [hg]; exact (below_size (by repeat (first | (with_reducible first | exact HB.out | apply below_alloc | apply pw_below_drewN | apply below_drew1) | exact HB.out))) : w.heap.size ≤ gb114)); clear HO103; clear HO106; clear HB; have HO103 := n0_; have HO106 := n1_; have HB := n2_; have BK114 := n3_; have GW114 := n4_; have GE114 := n5_; clear n0_ n1_ n2_ n3_ n4_ n5_; clear hb hbox hg; obtain ⟨Ao17, co17, eo17⟩ := Kd.R_slice HO106.out; subst eo17; have hcz18_0 : w16.cell? ⟨gb114, 0, none⟩ = some (.slice none 0 0) := (blk_cell BK114.out 0).trans rfl; have hcz18_1 : w16.cell? ⟨gb114, 1, none⟩ = some (.int .i64 0) := (blk_cell BK114.out 1).trans rfl; have hcz18_2 : w16.cell? ⟨gb114, 2, none⟩ = some (.int .i64 0) := (blk_cell BK114.out 2).trans rfl; have hcz18_3 : w16.cell? ⟨gb114, 3, none⟩ = some (.int .i64 0) := (blk_cell BK114.out 3).trans rfl; have hcz18_4 : w16.cell? ⟨gb114, 4, none⟩ = some (.int .i64 0) := (blk_cell BK114.out 4).trans rfl; have hcz18_5 : w16.cell? ⟨gb114, 5, none⟩ = some (.int .i64 0) := (blk_cell BK114.out 5).trans rfl; have hcz18_6 : w16.cell? ⟨gb114, 6, none⟩ = some (.bool false) := (blk_cell BK114.out 6).trans rfl; have hfz18_0 := blk_frozen BK114.out 0; have hfz18_1 := blk_frozen BK114.out 1; have hfz18_2 := blk_frozen BK114.out 2; have hfz18_3 := blk_frozen BK114.out 3; have hfz18_4 := blk_frozen BK114.out 4; have hfz18_5 := blk_frozen BK114.out 5; have hfz18_6 := blk_frozen BK114.out 6))
      go_ret
      exact ⟨by first | rfl | (simp [errW_none, errW_some] <;> rfl) | (simp [*, errW_none, errW_some] <;> rfl), by repeat (first | (with_reducible first | exact HB.out | apply below_alloc | apply pw_below_drewN | apply below_drew1 | refine below_set ?_ GE114.out) | exact HB.out)⟩
  · replace c2 := Bool.eq_false_iff.mpr c2
    subst c2
    have H1 : (some false) = some r := by rw [if_neg (show ¬ (false = true) by decide)] at H; exact H
    clear H
    have H := H1
    clear H1
    obtain rfl := Option.some.inj H
    go_enter Try.func31, Try.ntmps31
    go_wp2_with (first | ((with_reducible refine gate_dst (N := 8) rfl ?_); (try (refine gate_guard (by rfl) ?_; dsimp only)); refine Kd.R_lit k64 _ 64 ?hg (N := 8) ?hd (xs := ([(⟨(⟨0, 0⟩ : S44), (⟨5, 0⟩ : S44), (⟨0, 0⟩ : S44), false, 10⟩ : S64), (⟨(⟨7, 0⟩ : S44), (⟨0, 0⟩ : S44), (⟨0, 0⟩ : S44), false, 10⟩ : S64)] : List (S64))) (inner := [.int .i64 0, .int .i64 0, .int .i64 5, .int .i64 0, .int .i64 0, .int .i64 0, .bool false, .int .i64 10, .int .i64 7, .int .i64 0, .int .i64 0, .int .i64 0, .int .i64 0, .int .i64 0, .bool false, .int .i64 10]) (ok := fun _ => True) (okp := fun _ => True) ?hr ?hp (fun _ hk => hk) trivial (Below.refl _ _) (Nat.le_refl _) (by simp) ?_; (case hd => rfl); (case hg => rfl); (case hr => first | (go_simp; done) | (go_simp; rfl)); (case hp => exact (Reps.c8 (show Kd.M k64 _ _ _ (⟨(⟨0, 0⟩ : S44), (⟨5, 0⟩ : S44), (⟨0, 0⟩ : S44), false, 10⟩ : S64) [.int .i64 0, .int .i64 0, .int .i64 5, .int .i64 0, .int .i64 0, .int .i64 0, .bool false, .int .i64 10] from (k64_mkM _ _ _ (⟨(⟨0, 0⟩ : S44), (⟨5, 0⟩ : S44), (⟨0, 0⟩ : S44), false, 10⟩ : S64) )) (Reps.c8 (show Kd.M k64 _ _ _ (⟨(⟨7, 0⟩ : S44), (⟨0, 0⟩ : S44), (⟨0, 0⟩ : S44), false, 10⟩ : S64) [.int .i64 7, .int .i64 0, .int .i64 0, .int .i64 0, .int .i64 0, .int .i64 0, .bool false, .int .i64 10] from (k64_mkM _ _ _ (⟨(⟨7, 0⟩ : S44), (⟨0, 0⟩ : S44), (⟨0, 0⟩ : S44), false, 10⟩ : S64) )) (Reps.none _ _)))); intro v102 w19 ho20 hb hg_ hnew_; clear hg_ hnew_; (first | rw [← Ny101.out] at ho20 | (simp only [Int.reduceToNat] at ho20; rw [← Ny101.out] at ho20)); have n0_ := Aside0.mk (Kd.R_lower ho20 (below_size (by repeat (first | (with_reducible first | exact HB.out | apply below_alloc | apply pw_below_drewN | apply below_drew1) | exact HB.out)))); have n1_ := Aside0.mk (below_step (by repeat (first | (with_reducible first | exact HB.out | apply below_alloc | apply pw_below_drewN | apply below_drew1) | exact HB.out)) hb); clear HB; have HO103 := n0_; have HB := n1_; clear n0_ n1_; clear hb ho20; obtain ⟨Ao21, co21, eo21⟩ := Kd.R_slice HO103.out; subst eo21) | ((with_reducible refine gate_callee (f := 32) rfl ?_); refine goesL_ (some 9) rfl rfl Try.func32 (by kernel_rfl) rfl #[.slice Ao21 y101.length co21, .bool false] rfl (by (try simp only [List.map_toArray, List.map_cons, List.map_nil]); first | done | rfl | (simp only [List.length_drop, List.length_take]; rfl)) ?_; (with_reducible refine (pile_Stack.calls _ _ y101 false t104 t107 t108 t109 t110 t111 t112 false _ ?side1 ?side2 A1.out).mono ?_); (case side1 => repeat (first | exact (Kd.R_reads' HO103.out).2.2 | (with_reducible refine Kd.C_alloc ?_ _) | (with_reducible refine Kd.C_drewN ?_ _) | (with_reducible refine Kd.C_drew ?_))); (case side2 => exact (Kd.R_reads' HO103.out).2.1); rintro e w22 ⟨v105, rfl, ho0, hb⟩; refine ⟨_, rfl, ?_⟩; have n0_ := Aside0.mk (Kd.R_below (by (with_reducible repeat (first | apply Kd.R_alloc | apply Kd.R_drewN | apply Kd.R_drew)); exact HO103.out) hb); have n1_ := Aside0.mk (Kd.R_lower ho0 (below_size (by repeat (first | (with_reducible first | exact HB.out | apply below_alloc | apply pw_below_drewN | apply below_drew1) | exact HB.out)))); have n2_ := Aside0.mk (below_step (by repeat (first | (with_reducible first | exact HB.out | apply below_alloc | apply pw_below_drewN | apply below_drew1) | exact HB.out)) hb); clear HO103; clear HB; have HO103 := n0_; have HO106 := n1_; have HB := n2_; clear n0_ n1_ n2_; (try clear hb); (try clear hb2); (try clear hk); (try clear hi); (try clear ho0)) | ((with_reducible refine gate_dst (N := 1) rfl ?_); (try (refine gate_guard (by rfl) ?_; dsimp only)); refine box_event ?hg (N := 1) ?hd (cs := #[.slice none 0 0, .int .i64 0, .int .i64 0, .int .i64 0, .int .i64 0, .int .i64 0, .bool false]) (t := 60) ?hr ?_; (case hd => rfl); (case hg => rfl); (case hr => first | (go_simp; done) | (go_simp; rfl)); intro gb114 hg w23 hbox hb; have n0_ := Aside0.mk (Kd.R_below (by (with_reducible repeat (first | apply Kd.R_alloc | apply Kd.R_drewN | apply Kd.R_drew)); exact HO103.out) hb); have n1_ := Aside0.mk (Kd.R_below (by (with_reducible repeat (first | apply Kd.R_alloc | apply Kd.R_drewN | apply Kd.R_drew)); exact HO106.out) hb); have n2_ := Aside0.mk (below_step (by repeat (first | (with_reducible first | exact HB.out | apply below_alloc | apply pw_below_drewN | apply below_drew1) | exact HB.out)) hb); have n3_ := Aside0.mk (hbox); have n4_ := Aside0.mk ((by rw [hg]; exact (below_size (by repeat (first | (with_reducible first | exact HB.out | apply below_alloc | apply pw_below_drewN | apply below_drew1) | exact HB.out))) : w.heap.size ≤ gb114)); have n5_ := Aside0.mk ((by rw [hg]; exact (below_size (by repeat (first | (with_reducible first | exact HB.out | apply below_alloc | apply pw_below_drewN | apply below_drew1) | exact HB.out))) : w.heap.size ≤ gb114)); clear HO103; clear HO106; clear HB; have HO103 := n0_; have HO106 := n1_; have HB := n2_; have BK114 := n3_; have GW114 := n4_; have GE114 := n5_; clear n0_ n1_ n2_ n3_ n4_ n5_; clear hb hbox hg; obtain ⟨Ao24, co24, eo24⟩ := Kd.R_slice HO106.out; subst eo24; have hcz25_0 : w23.cell? ⟨gb114, 0, none⟩ = some (.slice none 0 0) := (blk_cell BK114.out 0).trans rfl; have hcz25_1 : w23.cell? ⟨gb114, 1, none⟩ = some (.int .i64 0) := (blk_cell BK114.out 1).trans rfl; have hcz25_2 : w23.cell? ⟨gb114, 2, none⟩ = some (.int .i64 0) := (blk_cell BK114.out 2).trans rfl; have hcz25_3 : w23.cell? ⟨gb114, 3, none⟩ = some (.int .i64 0) := (blk_cell BK114.out 3).trans rfl; have hcz25_4 : w23.cell? ⟨gb114, 4, none⟩ = some (.int .i64 0) := (blk_cell BK114.out 4).trans rfl; have hcz25_5 : w23.cell? ⟨gb114, 5, none⟩ = some (.int .i64 0) := (blk_cell BK114.out 5).trans rfl; have hcz25_6 : w23.cell? ⟨gb114, 6, none⟩ = some (.bool false) := (blk_cell BK114.out 6).trans rfl; have hfz25_0 := blk_frozen BK114.out 0; have hfz25_1 := blk_frozen BK114.out 1; have hfz25_2 := blk_frozen BK114.out 2; have hfz25_3 := blk_frozen BK114.out 3; have hfz25_4 := blk_frozen BK114.out 4; have hfz25_5 := blk_frozen BK114.out 5; have hfz25_6 := blk_frozen BK114.out 6))
    go_ret
    exact ⟨by first | rfl | (simp [errW_none, errW_some] <;> rfl) | (simp [*, errW_none, errW_some] <;> rfl), by repeat (first | (with_reducible first | exact HB.out | apply below_alloc | apply pw_below_drewN | apply below_drew1 | refine below_set ?_ GE114.out) | exact HB.out)⟩

/-! ### decoupagelaw12_PileApart: function 11 -/
mutual
def decoupagelaw12_PileApart.j0 : Nat → List Int → Bool → Bool → Option (Bool)
  | 0, _, _, _ => none
  | k + 1, x0, x1, x17 => if x17 = true then ((decoupagelaw12_awake.f).bind fun t117 => (some t117)) else (decoupagelaw12_PileApart.l0 k x0 x1 ([] : List (S64)) (x0.length : Int) 0)
def decoupagelaw12_PileApart.l0 : Nat → List Int → Bool → List (S64) → Int → Int → Option (Bool)
  | 0, _, _, _, _, _ => none
  | k + 1, x0, x1, x5, x20, x21 => if x21 < x20 then (if 0 ≤ x21 then (if x21 < (x0.length : Int) then (if x5.length < 2199023255552 then (decoupagelaw12_PileApart.l0 k x0 x1 (x5 ++ [(⟨(⟨0, 0⟩ : S44), (⟨0, 0⟩ : S44), (⟨0, 0⟩ : S44), false, wrap64 (rd x0 x21)⟩ : S64)]) x20 (wrap64 (x21 + 1))) else (none)) else (none)) else (none)) else ((pile_Stack.f x5 x1).bind fun bt122 => (decoupagelaw12_PileApart.l1 k x0 x1 bt122.2.2.2.2.2.2.2 0 (x0.length : Int) 0 bt122.1 bt122.2.1 bt122.2.2.1 bt122.2.2.2.1 bt122.2.2.2.2.1 bt122.2.2.2.2.2.1 bt122.2.2.2.2.2.2.1))
def decoupagelaw12_PileApart.l1 : Nat → List Int → Bool → Bool → Int → Int → Int → List Int → Int → Int → Int → Int → Int → Bool → Option (Bool)
  | 0, _, _, _, _, _, _, _, _, _, _, _, _, _ => none
  | k + 1, x0, x1, x8, x9, x41, x42, x133000, x133001, x133002, x133003, x133004, x133005, x133006 => if x42 < x41 then (if x8 = true then (if (x133000.length : Int) = (x0.length : Int) then (if 0 ≤ x42 then (if x42 < (x133000.length : Int) then (if (rd x133000 x42) = x9 then (if x42 < (x0.length : Int) then (decoupagelaw12_PileApart.l1 k x0 x1 x8 (wrap64 (x9 + (wrap64 (rd x0 x42)))) x41 (wrap64 (x42 + 1)) x133000 x133001 x133002 x133003 x133004 x133005 x133006) else (none)) else (some false)) else (none)) else (none)) else (some false)) else (some false)) else (if x8 = true then (if x133001 = x9 then (if x1 = true then (some (x133006 == ((x0.length : Int) == 0))) else (some (x133006 == false))) else (some false)) else (some false))
end
def decoupagelaw12_PileApart.f (k : Nat) (l0 : List Int) (a1 : Bool) : Option (Bool) := (decoupagelaw12_awake.f).bind fun t116 => (if t116 = true then (decoupagelaw12_PileApart.j0 k l0 a1 (decide ((l0.length : Int) > 50))) else (decoupagelaw12_PileApart.j0 k l0 a1 true))
theorem decoupagelaw12_PileApart.mono_l : ∀ k, (∀ y0 y1 y2, LeO (decoupagelaw12_PileApart.j0 k y0 y1 y2) (decoupagelaw12_PileApart.j0 (k + 1) y0 y1 y2)) ∧ (∀ y0 y1 y2 y3 y4, LeO (decoupagelaw12_PileApart.l0 k y0 y1 y2 y3 y4) (decoupagelaw12_PileApart.l0 (k + 1) y0 y1 y2 y3 y4)) ∧ (∀ y0 y1 y2 y3 y4 y5 y6 y7 y8 y9 y10 y11 y12, LeO (decoupagelaw12_PileApart.l1 k y0 y1 y2 y3 y4 y5 y6 y7 y8 y9 y10 y11 y12) (decoupagelaw12_PileApart.l1 (k + 1) y0 y1 y2 y3 y4 y5 y6 y7 y8 y9 y10 y11 y12))
  | 0 => ⟨fun _ _ _ r h => by simp [decoupagelaw12_PileApart.j0] at h, fun _ _ _ _ _ r h => by simp [decoupagelaw12_PileApart.l0] at h, fun _ _ _ _ _ _ _ _ _ _ _ _ _ r h => by simp [decoupagelaw12_PileApart.l1] at h⟩
  | k + 1 => by
    obtain ⟨ih0, ih1, ih2⟩ := decoupagelaw12_PileApart.mono_l k
    refine ⟨?_, ?_, ?_⟩
    · intro y0 y1 y2
      unfold decoupagelaw12_PileApart.j0
      repeat' first
      | (with_reducible exact ih0 _ _ _)
      | (with_reducible exact ih1 _ _ _ _ _)
      | (with_reducible exact ih2 _ _ _ _ _ _ _ _ _ _ _ _ _)
      | (with_reducible exact LeO.refl _)
      | (with_reducible exact LeO.none _)
      | (with_reducible refine LeO.ite ?_ ?_)
      | (with_reducible refine LeO.bind ?_ (fun _ => ?_))
      | exact ih0 _ _ _
      | exact ih1 _ _ _ _ _
      | exact ih2 _ _ _ _ _ _ _ _ _ _ _ _ _
      | exact LeO.none _
      | refine LeO.ite ?_ ?_
      | refine LeO.bind ?_ (fun _ => ?_)
    · intro y0 y1 y2 y3 y4
      unfold decoupagelaw12_PileApart.l0
      repeat' first
      | (with_reducible exact ih0 _ _ _)
      | (with_reducible exact ih1 _ _ _ _ _)
      | (with_reducible exact ih2 _ _ _ _ _ _ _ _ _ _ _ _ _)
      | (with_reducible exact LeO.refl _)
      | (with_reducible exact LeO.none _)
      | (with_reducible refine LeO.ite ?_ ?_)
      | (with_reducible refine LeO.bind ?_ (fun _ => ?_))
      | exact ih0 _ _ _
      | exact ih1 _ _ _ _ _
      | exact ih2 _ _ _ _ _ _ _ _ _ _ _ _ _
      | exact LeO.none _
      | refine LeO.ite ?_ ?_
      | refine LeO.bind ?_ (fun _ => ?_)
    · intro y0 y1 y2 y3 y4 y5 y6 y7 y8 y9 y10 y11 y12
      unfold decoupagelaw12_PileApart.l1
      repeat' first
      | (with_reducible exact ih0 _ _ _)
      | (with_reducible exact ih1 _ _ _ _ _)
      | (with_reducible exact ih2 _ _ _ _ _ _ _ _ _ _ _ _ _)
      | (with_reducible exact LeO.refl _)
      | (with_reducible exact LeO.none _)
      | (with_reducible refine LeO.ite ?_ ?_)
      | (with_reducible refine LeO.bind ?_ (fun _ => ?_))
      | exact ih0 _ _ _
      | exact ih1 _ _ _ _ _
      | exact ih2 _ _ _ _ _ _ _ _ _ _ _ _ _
      | exact LeO.none _
      | refine LeO.ite ?_ ?_
      | refine LeO.bind ?_ (fun _ => ?_)
theorem decoupagelaw12_PileApart.mono : ∀ a0 a1 k, LeO (decoupagelaw12_PileApart.f k a0 a1) (decoupagelaw12_PileApart.f (k + 1) a0 a1) := by
  intro a0 a1 k
  obtain ⟨ih0, ih1, ih2⟩ := decoupagelaw12_PileApart.mono_l k
  unfold decoupagelaw12_PileApart.f
  repeat' first
      | (with_reducible exact ih0 _ _ _)
      | (with_reducible exact ih1 _ _ _ _ _)
      | (with_reducible exact ih2 _ _ _ _ _ _ _ _ _ _ _ _ _)
      | (with_reducible exact LeO.refl _)
      | (with_reducible exact LeO.none _)
      | (with_reducible refine LeO.ite ?_ ?_)
      | (with_reducible refine LeO.bind ?_ (fun _ => ?_))
      | exact ih0 _ _ _
      | exact ih1 _ _ _ _ _
      | exact ih2 _ _ _ _ _ _ _ _ _ _ _ _ _
      | exact LeO.none _
      | refine LeO.ite ?_ ?_
      | refine LeO.bind ?_ (fun _ => ?_)
set_option maxHeartbeats 8000000 in
set_option maxRecDepth 100000 in
theorem decoupagelaw12_PileApart.calls (k : Nat) (A0 : Option Addr) (c0 : Nat) (l0 : List Int) (a1 : Bool) (r : Bool) (w : World) (hr0 : Kd.C (Kd.int .u16) w A0 l0.length l0) (hc0 : l0.length ≤ c0) (h : decoupagelaw12_PileApart.f k l0 a1 = some r) :
    Calls Try.prog 11 #[.slice A0 l0.length c0, .bool a1] w fun e w' => e = .returned (.bool r) ∧ Below w.heap.size w w' := by
  have hu64 := Try.underlying64
  have hu60 := Try.underlying60
  have HR0 := Aside0.mk hr0
  have HC0 := Aside0.mk hc0
  clear hr0 hc0
  have HB := Aside0.mk (Below.refl w.heap.size w)
  have H : ((decoupagelaw12_awake.f).bind fun t116 => (if t116 = true then (decoupagelaw12_PileApart.j0 k l0 a1 (decide ((l0.length : Int) > 50))) else (decoupagelaw12_PileApart.j0 k l0 a1 true))) = some r := h
  clear h
  have HC3 := Aside0.mk H
  clear H
  go_enter Try.func11, Try.ntmps11
  go_upto_region 1 with (fail)
  go_cut [17] (fun v17 wc => ∃ (kq : Nat) (x17_2 : Bool), v17 = .bool x17_2 ∧ Aside0 (decoupagelaw12_PileApart.j0 kq l0 a1 x17_2 = some r) ∧ Aside0 (kq ≤ k) ∧ Aside0 (Below w.heap.size w wc))
  case first =>
    have H := HC3.out
    clear HC3
    replace H := Option.bind_eq_some_iff.mp H
    obtain ⟨t116, A40, H⟩ := H
    replace H : (if t116 = true then (decoupagelaw12_PileApart.j0 k l0 a1 (decide ((l0.length : Int) > 50))) else (decoupagelaw12_PileApart.j0 k l0 a1 true)) = some r := H
    have A4 := Aside0.mk A40
    clear A40
    by_cases c5 : t116 = true
    · subst c5
      have H1 : (decoupagelaw12_PileApart.j0 k l0 a1 (decide ((l0.length : Int) > 50))) = some r := by rw [if_pos rfl] at H; exact H
      clear H
      have H := H1
      clear H1
      have H' := Aside0.mk H
      clear H
      go_wp2_with (first | ((with_reducible refine gate_callee (f := 31) rfl ?_); refine goesL_ (some 11) rfl rfl Try.func31 (by kernel_rfl) rfl #[] rfl (by (try simp only [List.map_toArray, List.map_cons, List.map_nil]); first | done | rfl | (simp only [List.length_drop, List.length_take]; rfl)) ?_; (with_reducible refine (decoupagelaw12_awake.calls  true _ A4.out).mono ?_); rintro e w6 ⟨rfl, hb⟩; refine ⟨_, rfl, ?_⟩; have n0_ := Aside0.mk (below_step (by repeat (first | (with_reducible first | exact HB.out | apply below_alloc | apply pw_below_drewN | apply below_drew1) | exact HB.out)) hb); clear HB; have HB := n0_; clear n0_; (try clear hb); (try clear hb2); (try clear hk); (try clear hi)))
      go_meet
      case rel => exact ⟨_, (decide ((l0.length : Int) > 50)), (by first | rfl | (simp; done) | (simp [*]; done)), H', ⟨by first | omega | exact Nat.le_refl _⟩, ⟨by repeat (first | (with_reducible first | exact HB.out | apply below_alloc | apply pw_below_drewN | apply below_drew1) | exact HB.out)⟩⟩
    · replace c5 := Bool.eq_false_iff.mpr c5
      subst c5
      have H1 : (decoupagelaw12_PileApart.j0 k l0 a1 true) = some r := by rw [if_neg (show ¬ (false = true) by decide)] at H; exact H
      clear H
      have H := H1
      clear H1
      have H' := Aside0.mk H
      clear H
      go_wp2_with (first | ((with_reducible refine gate_callee (f := 31) rfl ?_); refine goesL_ (some 11) rfl rfl Try.func31 (by kernel_rfl) rfl #[] rfl (by (try simp only [List.map_toArray, List.map_cons, List.map_nil]); first | done | rfl | (simp only [List.length_drop, List.length_take]; rfl)) ?_; (with_reducible refine (decoupagelaw12_awake.calls  false _ A4.out).mono ?_); rintro e w7 ⟨rfl, hb⟩; refine ⟨_, rfl, ?_⟩; have n0_ := Aside0.mk (below_step (by repeat (first | (with_reducible first | exact HB.out | apply below_alloc | apply pw_below_drewN | apply below_drew1) | exact HB.out)) hb); clear HB; have HB := n0_; clear n0_; (try clear hb); (try clear hb2); (try clear hk); (try clear hi)))
      go_meet
      case rel => exact ⟨_, (true), (by first | rfl | (simp; done) | (simp [*]; done)), H', ⟨by first | omega | exact Nat.le_refl _⟩, ⟨by repeat (first | (with_reducible first | exact HB.out | apply below_alloc | apply pw_below_drewN | apply below_drew1) | exact HB.out)⟩⟩
  case rest =>
    clear HC3
    try clear c1
    try clear p2
    try clear c3
    try clear c5
    obtain ⟨kq, x17_2, rfl, HA, HJ2, HB⟩ := hcut
    cases kq with
    | zero => exact absurd HA.out (by simp [decoupagelaw12_PileApart.j0])
    | succ kj2 =>
      have H := HA.out
      clear HA
      simp only [decoupagelaw12_PileApart.j0] at H
      by_cases c8 : x17_2 = true
      · subst c8
        have H1 : ((decoupagelaw12_awake.f).bind fun t117 => (some t117)) = some r := by rw [if_pos rfl] at H; exact H
        clear H
        have H := H1
        clear H1
        replace H := Option.bind_eq_some_iff.mp H
        obtain ⟨t117, A90, H⟩ := H
        replace H : (some t117) = some r := H
        have A9 := Aside0.mk A90
        clear A90
        obtain rfl := Option.some.inj H
        go_wp2_with (first | ((with_reducible refine gate_callee (f := 31) rfl ?_); refine goesL_ (some 18) rfl rfl Try.func31 (by kernel_rfl) rfl #[] rfl (by (try simp only [List.map_toArray, List.map_cons, List.map_nil]); first | done | rfl | (simp only [List.length_drop, List.length_take]; rfl)) ?_; (with_reducible refine (decoupagelaw12_awake.calls  t117 _ A9.out).mono ?_); rintro e w10 ⟨rfl, hb⟩; refine ⟨_, rfl, ?_⟩; have n0_ := Aside0.mk (below_step (by repeat (first | (with_reducible first | exact HB.out | apply below_alloc | apply pw_below_drewN | apply below_drew1) | exact HB.out)) hb); clear HB; have HB := n0_; clear n0_; (try clear hb); (try clear hb2); (try clear hk); (try clear hi)))
        go_ret
        exact ⟨by first | rfl | (simp [errW_none, errW_some] <;> rfl) | (simp [*, errW_none, errW_some] <;> rfl), by repeat (first | (with_reducible first | exact HB.out | apply below_alloc | apply pw_below_drewN | apply below_drew1) | exact HB.out)⟩
      · replace c8 := Bool.eq_false_iff.mpr c8
        subst c8
        have H1 : (decoupagelaw12_PileApart.l0 kj2 l0 a1 ([] : List (S64)) (l0.length : Int) 0) = some r := by rw [if_neg (show ¬ (false = true) by decide)] at H; exact H
        clear H
        have H := H1
        clear H1
        have H' := Aside0.mk H
        clear H
        go_wp2
        go_loopg [5, 21] kj2 (fun kq v5 v21 w' => ∃ (x5_2 : List (S64)) (x21_2 : Int), v21 = .int .i64 x21_2 ∧ Aside0 (decoupagelaw12_PileApart.l0 kq l0 a1 x5_2 (l0.length : Int) x21_2 = some r) ∧ Aside0 (kq ≤ kj2) ∧ Aside0 (Kd.R k64 64 w' w.heap.size (fun _ => True) v5 x5_2) ∧ Aside0 (Below w.heap.size w w'))
        case atStart => exact ⟨(([] : List (S64))), (0), (by first | rfl | (simp; done) | (simp [*]; done)), H', ⟨Nat.le_refl _⟩, ⟨by first | exact Kd.R_nil _ _ _ _ _ | exact Kd.N_nil _ _ _ _ _ | exact Kd.V_nil _ _ _ _ _ | exact Kd.Q_nil _ _ _ _ _ | exact Kd.S_nil _ _ _ _ _⟩, ⟨by repeat (first | (with_reducible first | exact HB.out | apply below_alloc | apply pw_below_drewN | apply below_drew1) | exact HB.out)⟩⟩
        case round =>
          clear H'
          try clear c1
          try clear p2
          try clear c3
          try clear c5
          try clear c8
          try clear p2
          obtain ⟨x5_2, x21_2, rfl, HA, HK2, HO_5, HB⟩ := hrel
          cases gk with
          | zero => exact absurd HA.out (by simp [decoupagelaw12_PileApart.l0])
          | succ k2 =>
            have H := HA.out
            clear HA
            simp only [decoupagelaw12_PileApart.l0] at H
            by_cases c11 : x21_2 < (l0.length : Int)
            · rw [if_pos c11] at H
              have c11b0 : decide (x21_2 < (l0.length : Int)) = true := decide_eq_true c11
              clear c11
              by_cases c12 : 0 ≤ x21_2
              · rw [if_pos c12] at H
                have c12b0 : decide (0 ≤ x21_2) = true := decide_eq_true c12
                clear c12
                by_cases c13 : x21_2 < (l0.length : Int)
                · rw [if_pos c13] at H
                  have c13b0 : decide (x21_2 < (l0.length : Int)) = true := decide_eq_true c13
                  clear c13
                  by_cases c14 : x5_2.length < 2199023255552
                  · rw [if_pos c14] at H
                    have LMc14 := Aside0.mk c14
                    clear c14
                    obtain ⟨y119, hy119⟩ : ∃ y_ : List (S64), y_ = (x5_2 ++ [(⟨(⟨0, 0⟩ : S44), (⟨0, 0⟩ : S44), (⟨0, 0⟩ : S44), false, wrap64 (rd l0 x21_2)⟩ : S64)]) := ⟨_, rfl⟩
                    replace H : (decoupagelaw12_PileApart.l0 k2 l0 a1 y119 (l0.length : Int) (wrap64 (x21_2 + 1))) = some r := by first | (rw [hy119]; with_reducible exact H) | (have H2_ := (Option.bind_some _ _).symm.trans H; rw [hy119]; with_reducible exact H2_) | (have H2_ := (Option.bind_some _ _).symm.trans H; with_reducible exact H2_) | with_reducible exact H | (rw [hy119]; exact H) | exact H
                    have Ny119 := Aside0.mk hy119
                    clear hy119
                    have H' := Aside0.mk H
                    clear H
                    have p118 : 0 ≤ (x21_2 : Int) := of_decide_eq_true (by first | (with_reducible assumption) | assumption)
                    have q118 : x21_2 < (l0.length : Int) := of_decide_eq_true (by first | (with_reducible assumption) | assumption)
                    obtain ⟨ad118, e118, hx118_0⟩ := Kd.at_int HR0.out x21_2 p118 q118
                    cases e118
                    replace hx118_0 := (HB.out.cell (World.block_lt_of_cell? w _ hx118_0)).trans hx118_0
                    replace p118 := eq_true p118
                    replace q118 := eq_true q118
                    go_wp2_with (first | ((with_reducible refine gate_builtin (b := .append) (xs := #[.tmp 24, .tmp 31]) rfl ?_); (try (refine gate_guard (by rfl) ?_; dsimp only)); at_builtin; refine Kd.R_append k64 (w0 := w) w.heap.size rfl (.tmp 24) (.tmp 31) 58 64 (.agg #[(.int .i64 0), (.int .i64 0), (.int .i64 0), (.int .i64 0), (.int .i64 0), (.int .i64 0), (.bool false), (.int .i64 0)]) 64 rfl Try.underlying58 info64 rfl (by decide) (by omega) u5 x5_2 (⟨(⟨0, 0⟩ : S44), (⟨0, 0⟩ : S44), (⟨0, 0⟩ : S44), false, wrap64 (rd l0 x21_2)⟩ : S64) [.int .i64 0, .int .i64 0, .int .i64 0, .int .i64 0, .int .i64 0, .int .i64 0, .bool false, .int .i64 (wrap64 (rd l0 x21_2))] (fun _ => True) (fun _ => False) rfl rfl ?aP (fun _ hk => hk.elim) ?aF ?aO ?aB ?aS ?aL ?_; (case aP => exact k64_mkM _ _ _ (⟨(⟨0, 0⟩ : S44), (⟨0, 0⟩ : S44), (⟨0, 0⟩ : S44), false, wrap64 (rd l0 x21_2)⟩ : S64)); (case aB => exact (by repeat (first | (with_reducible first | exact HB.out | apply below_alloc | apply pw_below_drewN | apply below_drew1) | exact HB.out))); (case aF => exact (fun _ _ => trivial)); (case aO => exact (by (with_reducible repeat (first | apply Kd.R_alloc | apply Kd.R_drewN | apply Kd.R_drew)); exact HO_5.out)); (case aS => exact (below_size (by repeat (first | (with_reducible first | exact HB.out | apply below_alloc | apply pw_below_drewN | apply below_drew1) | exact HB.out)))); (case aL => have := LMc14.out; omega); intro v120 w15 ho hb hg hat; rw [← Ny119.out] at ho; have n0_ := Aside0.mk (hb); have n1_ := Aside0.mk (ho); clear HB; clear HO_5; have HB := n0_; have HO121 := n1_; clear n0_ n1_; clear ho hb hg hat))
                    go_roundg k2
                    case measure => have := HJ2.out; have := HK2.out; omega
                    case rel => exact ⟨(y119), (wrap64 (x21_2 + 1)), (by first | rfl | (simp; done) | (simp [*]; done)), H', ⟨by have := HJ2.out; have := HK2.out; omega⟩, ⟨by (with_reducible repeat (first | apply Kd.R_alloc | apply Kd.R_drewN | apply Kd.R_drew)); exact HO121.out⟩, ⟨by repeat (first | (with_reducible first | exact HB.out | apply below_alloc | apply pw_below_drewN | apply below_drew1) | exact HB.out)⟩⟩
                  · rw [if_neg c14] at H
                    exact absurd H (by simp)
                · rw [if_neg c13] at H
                  exact absurd H (by simp)
              · rw [if_neg c12] at H
                exact absurd H (by simp)
            · rw [if_neg c11] at H
              have c11b0 : decide (x21_2 < (l0.length : Int)) = false := decide_eq_false c11
              clear c11
              replace H := Option.bind_eq_some_iff.mp H
              obtain ⟨⟨t122, t125, t126, t127, t128, t129, t130, t131⟩, A160, H⟩ := H
              replace H : (decoupagelaw12_PileApart.l1 k2 l0 a1 t131 0 (l0.length : Int) 0 t122 t125 t126 t127 t128 t129 t130) = some r := H
              have A16 := Aside0.mk A160
              clear A160
              have H' := Aside0.mk H
              clear H
              obtain ⟨Ao17, co17, eo17⟩ := Kd.R_slice HO_5.out
              subst eo17
              go_wp2_with (first | ((with_reducible refine gate_callee (f := 32) rfl ?_); refine goesL_ (some 37) rfl rfl Try.func32 (by kernel_rfl) rfl #[.slice Ao17 x5_2.length co17, .bool a1] rfl (by (try simp only [List.map_toArray, List.map_cons, List.map_nil]); first | done | rfl | (simp only [List.length_drop, List.length_take]; rfl)) ?_; (with_reducible refine (pile_Stack.calls _ _ x5_2 a1 t122 t125 t126 t127 t128 t129 t130 t131 _ ?side1 ?side2 A16.out).mono ?_); (case side1 => repeat (first | exact (Kd.R_reads' HO_5.out).2.2 | (with_reducible refine Kd.C_alloc ?_ _) | (with_reducible refine Kd.C_drewN ?_ _) | (with_reducible refine Kd.C_drew ?_))); (case side2 => exact (Kd.R_reads' HO_5.out).2.1); rintro e w18 ⟨v123, rfl, ho0, hb⟩; refine ⟨_, rfl, ?_⟩; have n0_ := Aside0.mk (Kd.R_below (by (with_reducible repeat (first | apply Kd.R_alloc | apply Kd.R_drewN | apply Kd.R_drew)); exact HO_5.out) hb); have n1_ := Aside0.mk (Kd.R_lower ho0 (below_size (by repeat (first | (with_reducible first | exact HB.out | apply below_alloc | apply pw_below_drewN | apply below_drew1) | exact HB.out)))); have n2_ := Aside0.mk (below_step (by repeat (first | (with_reducible first | exact HB.out | apply below_alloc | apply pw_below_drewN | apply below_drew1) | exact HB.out)) hb); clear HO_5; clear HB; have HO_5 := n0_; have HO124 := n1_; have HB := n2_; clear n0_ n1_ n2_; (try clear hb); (try clear hb2); (try clear hk); (try clear hi); (try clear ho0)) | ((with_reducible refine gate_dst (N := 7) rfl ?_); (try (refine gate_guard (by rfl) ?_; dsimp only)); refine box_event ?hg (N := 7) ?hd (cs := #[.slice none 0 0, .int .i64 0, .int .i64 0, .int .i64 0, .int .i64 0, .int .i64 0, .bool false]) (t := 60) ?hr ?_; (case hd => rfl); (case hg => rfl); (case hr => first | (go_simp; done) | (go_simp; rfl)); intro gb132 hg w19 hbox hb; have n0_ := Aside0.mk (Kd.R_below (by (with_reducible repeat (first | apply Kd.R_alloc | apply Kd.R_drewN | apply Kd.R_drew)); exact HO_5.out) hb); have n1_ := Aside0.mk (Kd.R_below (by (with_reducible repeat (first | apply Kd.R_alloc | apply Kd.R_drewN | apply Kd.R_drew)); exact HO124.out) hb); have n2_ := Aside0.mk (below_step (by repeat (first | (with_reducible first | exact HB.out | apply below_alloc | apply pw_below_drewN | apply below_drew1) | exact HB.out)) hb); have n3_ := Aside0.mk (hbox); have n4_ := Aside0.mk ((by rw [hg]; exact (below_size (by repeat (first | (with_reducible first | exact HB.out | apply below_alloc | apply pw_below_drewN | apply below_drew1) | exact HB.out))) : w.heap.size ≤ gb132)); have n5_ := Aside0.mk ((by rw [hg]; exact (below_size (by repeat (first | (with_reducible first | exact HB.out | apply below_alloc | apply pw_below_drewN | apply below_drew1) | exact HB.out))) : w.heap.size ≤ gb132)); clear HO_5; clear HO124; clear HB; have HO_5 := n0_; have HO124 := n1_; have HB := n2_; have BK132 := n3_; have GW132 := n4_; have GE132 := n5_; clear n0_ n1_ n2_ n3_ n4_ n5_; clear hb hbox hg; obtain ⟨Ao20, co20, eo20⟩ := Kd.R_slice HO124.out; subst eo20; have hcz21_0 : w19.cell? ⟨gb132, 0, none⟩ = some (.slice none 0 0) := (blk_cell BK132.out 0).trans rfl; have hcz21_1 : w19.cell? ⟨gb132, 1, none⟩ = some (.int .i64 0) := (blk_cell BK132.out 1).trans rfl; have hcz21_2 : w19.cell? ⟨gb132, 2, none⟩ = some (.int .i64 0) := (blk_cell BK132.out 2).trans rfl; have hcz21_3 : w19.cell? ⟨gb132, 3, none⟩ = some (.int .i64 0) := (blk_cell BK132.out 3).trans rfl; have hcz21_4 : w19.cell? ⟨gb132, 4, none⟩ = some (.int .i64 0) := (blk_cell BK132.out 4).trans rfl; have hcz21_5 : w19.cell? ⟨gb132, 5, none⟩ = some (.int .i64 0) := (blk_cell BK132.out 5).trans rfl; have hcz21_6 : w19.cell? ⟨gb132, 6, none⟩ = some (.bool false) := (blk_cell BK132.out 6).trans rfl; have hfz21_0 := blk_frozen BK132.out 0; have hfz21_1 := blk_frozen BK132.out 1; have hfz21_2 := blk_frozen BK132.out 2; have hfz21_3 := blk_frozen BK132.out 3; have hfz21_4 := blk_frozen BK132.out 4; have hfz21_5 := blk_frozen BK132.out 5; have hfz21_6 := blk_frozen BK132.out 6))
              go_loopg [9, 42] k2 (fun kq v9 v42 w' => ∃ (x9_3 : Int) (x42_3 : Int), v9 = .int .i64 x9_3 ∧ v42 = .int .i64 x42_3 ∧ Aside0 (decoupagelaw12_PileApart.l1 kq l0 a1 t131 x9_3 (l0.length : Int) x42_3 t122 t125 t126 t127 t128 t129 t130 = some r) ∧ Aside0 (kq ≤ k2) ∧ Aside0 (Kd.R (Kd.int .i64) 2 w' w.heap.size (fun _ => True) (.slice Ao20 t122.length co20) t122) ∧ Aside0 (w'.heap[gb132]? = some (.cells #[(.slice Ao20 t122.length co20), .int .i64 t125, .int .i64 t126, .int .i64 t127, .int .i64 t128, .int .i64 t129, .bool t130] 60 (0, 0))) ∧ Aside0 (Below w.heap.size w w'))
              case atStart => exact ⟨(0), (0), (by first | rfl | (simp; done) | (simp [*]; done)), (by first | rfl | (simp; done) | (simp [*]; done)), H', ⟨Nat.le_refl _⟩, ⟨by (with_reducible repeat (first | apply Kd.R_alloc | apply Kd.R_drewN | apply Kd.R_drew)); exact Kd.R_mono (Kd.R_far (p := ⟨gb132, 6, none⟩) (Kd.R_far (p := ⟨gb132, 5, none⟩) (Kd.R_far (p := ⟨gb132, 4, none⟩) (Kd.R_far (p := ⟨gb132, 3, none⟩) (Kd.R_far (p := ⟨gb132, 2, none⟩) (Kd.R_far (p := ⟨gb132, 1, none⟩) (Kd.R_far (p := ⟨gb132, 0, none⟩) (Kd.R_types HO124.out BK132.out (by decide)) (fun _ hk => hk.2) (.slice Ao20 t122.length co20)) (fun _ hk => hk.2) (.int .i64 t125)) (fun _ hk => hk.2) (.int .i64 t126)) (fun _ hk => hk.2) (.int .i64 t127)) (fun _ hk => hk.2) (.int .i64 t128)) (fun _ hk => hk.2) (.int .i64 t129)) (fun _ hk => hk.2) (.bool t130)) (fun _ hk => trivial)⟩, ⟨by (with_reducible repeat (first | refine blk_drewN ?_ _ | refine blk_drew ?_ | refine blk_alloc ?_ _)); refine blk_put (cs := #[.slice Ao20 t122.length co20, .int .i64 t125, .int .i64 t126, .int .i64 t127, .int .i64 t128, .int .i64 t129, .bool false]) ?_ 6 _ rfl; (with_reducible repeat (first | refine blk_drewN ?_ _ | refine blk_drew ?_ | refine blk_alloc ?_ _)); refine blk_put (cs := #[.slice Ao20 t122.length co20, .int .i64 t125, .int .i64 t126, .int .i64 t127, .int .i64 t128, .int .i64 0, .bool false]) ?_ 5 _ rfl; (with_reducible repeat (first | refine blk_drewN ?_ _ | refine blk_drew ?_ | refine blk_alloc ?_ _)); refine blk_put (cs := #[.slice Ao20 t122.length co20, .int .i64 t125, .int .i64 t126, .int .i64 t127, .int .i64 0, .int .i64 0, .bool false]) ?_ 4 _ rfl; (with_reducible repeat (first | refine blk_drewN ?_ _ | refine blk_drew ?_ | refine blk_alloc ?_ _)); refine blk_put (cs := #[.slice Ao20 t122.length co20, .int .i64 t125, .int .i64 t126, .int .i64 0, .int .i64 0, .int .i64 0, .bool false]) ?_ 3 _ rfl; (with_reducible repeat (first | refine blk_drewN ?_ _ | refine blk_drew ?_ | refine blk_alloc ?_ _)); refine blk_put (cs := #[.slice Ao20 t122.length co20, .int .i64 t125, .int .i64 0, .int .i64 0, .int .i64 0, .int .i64 0, .bool false]) ?_ 2 _ rfl; (with_reducible repeat (first | refine blk_drewN ?_ _ | refine blk_drew ?_ | refine blk_alloc ?_ _)); refine blk_put (cs := #[.slice Ao20 t122.length co20, .int .i64 0, .int .i64 0, .int .i64 0, .int .i64 0, .int .i64 0, .bool false]) ?_ 1 _ rfl; (with_reducible repeat (first | refine blk_drewN ?_ _ | refine blk_drew ?_ | refine blk_alloc ?_ _)); refine blk_put (cs := #[.slice none 0 0, .int .i64 0, .int .i64 0, .int .i64 0, .int .i64 0, .int .i64 0, .bool false]) ?_ 0 _ rfl; (with_reducible repeat (first | refine blk_drewN ?_ _ | refine blk_drew ?_ | refine blk_alloc ?_ _)); exact BK132.out⟩, ⟨by repeat (first | (with_reducible first | exact HB.out | apply below_alloc | apply pw_below_drewN | apply below_drew1 | refine below_set ?_ GE132.out) | exact HB.out)⟩⟩
              case round =>
                clear H'
                try clear c1
                try clear p1
                try clear q1
                try clear hx1
                try clear p2
                try clear c3
                try clear c5
                try clear p6
                try clear c8
                try clear c11
                try clear c11b0
                try clear p11
                try clear q11
                try clear hx11
                try clear c12
                try clear c12b0
                try clear c13
                try clear c13b0
                try clear c14
                try clear hcz21_0
                try clear hcz21_1
                try clear hcz21_2
                try clear hcz21_3
                try clear hcz21_4
                try clear hcz21_5
                try clear hcz21_6
                try clear hfz21_0
                try clear hfz21_1
                try clear hfz21_2
                try clear hfz21_3
                try clear hfz21_4
                try clear hfz21_5
                try clear hfz21_6
                try clear hx118_0
                try clear p118
                try clear p2
                try clear q118
                obtain ⟨x9_3, x42_3, rfl, rfl, HA, HK3, HO_133000, BK132, HB⟩ := hrel
                cases gk with
                | zero => exact absurd HA.out (by simp [decoupagelaw12_PileApart.l1])
                | succ k3 =>
                  have H := HA.out
                  clear HA
                  simp only [decoupagelaw12_PileApart.l1] at H
                  by_cases c22 : x42_3 < (l0.length : Int)
                  · rw [if_pos c22] at H
                    have c22b0 : decide (x42_3 < (l0.length : Int)) = true := decide_eq_true c22
                    clear c22
                    by_cases c23 : t131 = true
                    · subst c23
                      have H1 : (if (t122.length : Int) = (l0.length : Int) then (if 0 ≤ x42_3 then (if x42_3 < (t122.length : Int) then (if (rd t122 x42_3) = x9_3 then (if x42_3 < (l0.length : Int) then (decoupagelaw12_PileApart.l1 k3 l0 a1 true (wrap64 (x9_3 + (wrap64 (rd l0 x42_3)))) (l0.length : Int) (wrap64 (x42_3 + 1)) t122 t125 t126 t127 t128 t129 t130) else (none)) else (some false)) else (none)) else (none)) else (some false)) = some r := by rw [if_pos rfl] at H; exact H
                      clear H
                      have H := H1
                      clear H1
                      by_cases c24 : (t122.length : Int) = (l0.length : Int)
                      · rw [if_pos c24] at H
                        have c24b0 : ((t122.length : Int) == (l0.length : Int)) = true := beq_iff_eq.mpr c24
                        have c24b1 : ((t122.length : Int) != (l0.length : Int)) = false := bne_eq_false_iff_eq.mpr c24
                        have c24b2 : (t122.length == l0.length) = true := by first | simpa using c24 | (simp at c24 ⊢; omega)
                        clear c24
                        by_cases c25 : 0 ≤ x42_3
                        · rw [if_pos c25] at H
                          have c25b0 : decide (0 ≤ x42_3) = true := decide_eq_true c25
                          clear c25
                          by_cases c26 : x42_3 < (t122.length : Int)
                          · rw [if_pos c26] at H
                            have c26b0 : decide (x42_3 < (t122.length : Int)) = true := decide_eq_true c26
                            clear c26
                            by_cases c27 : (rd t122 x42_3) = x9_3
                            · rw [if_pos c27] at H
                              have c27b0 : ((rd t122 x42_3) == x9_3) = true := beq_iff_eq.mpr c27
                              have c27b1 : ((rd t122 x42_3) != x9_3) = false := bne_eq_false_iff_eq.mpr c27
                              clear c27
                              by_cases c28 : x42_3 < (l0.length : Int)
                              · rw [if_pos c28] at H
                                have c28b0 : decide (x42_3 < (l0.length : Int)) = true := decide_eq_true c28
                                clear c28
                                have H' := Aside0.mk H
                                clear H
                                have hcz29_0 : wr.cell? ⟨gb132, 0, none⟩ = some (.slice Ao20 t122.length co20) := (blk_cell BK132.out 0).trans rfl
                                have hcz29_1 : wr.cell? ⟨gb132, 1, none⟩ = some (.int .i64 t125) := (blk_cell BK132.out 1).trans rfl
                                have hcz29_2 : wr.cell? ⟨gb132, 2, none⟩ = some (.int .i64 t126) := (blk_cell BK132.out 2).trans rfl
                                have hcz29_3 : wr.cell? ⟨gb132, 3, none⟩ = some (.int .i64 t127) := (blk_cell BK132.out 3).trans rfl
                                have hcz29_4 : wr.cell? ⟨gb132, 4, none⟩ = some (.int .i64 t128) := (blk_cell BK132.out 4).trans rfl
                                have hcz29_5 : wr.cell? ⟨gb132, 5, none⟩ = some (.int .i64 t129) := (blk_cell BK132.out 5).trans rfl
                                have hcz29_6 : wr.cell? ⟨gb132, 6, none⟩ = some (.bool t130) := (blk_cell BK132.out 6).trans rfl
                                have hfz29_0 := blk_frozen BK132.out 0
                                have hfz29_1 := blk_frozen BK132.out 1
                                have hfz29_2 := blk_frozen BK132.out 2
                                have hfz29_3 := blk_frozen BK132.out 3
                                have hfz29_4 := blk_frozen BK132.out 4
                                have hfz29_5 := blk_frozen BK132.out 5
                                have hfz29_6 := blk_frozen BK132.out 6
                                have p133 : 0 ≤ (x42_3 : Int) := of_decide_eq_true (by first | (with_reducible assumption) | assumption)
                                have q133 : x42_3 < (t122.length : Int) := of_decide_eq_true (by first | (with_reducible assumption) | assumption)
                                obtain ⟨ad133, e133, hx133_0⟩ := Kd.at_int (Kd.R_reads' HO_133000.out).2.2 x42_3 p133 q133
                                cases e133
                                replace p133 := eq_true p133
                                replace q133 := eq_true q133
                                have p134 : 0 ≤ (x42_3 : Int) := of_decide_eq_true (by first | (with_reducible assumption) | assumption)
                                have q134 : x42_3 < (l0.length : Int) := of_decide_eq_true (by first | (with_reducible assumption) | assumption)
                                obtain ⟨ad134, e134, hx134_0⟩ := Kd.at_int HR0.out x42_3 p134 q134
                                cases e134
                                replace hx134_0 := (HB.out.cell (World.block_lt_of_cell? w _ hx134_0)).trans hx134_0
                                replace p134 := eq_true p134
                                replace q134 := eq_true q134
                                go_wp2
                                go_roundg k3
                                case measure => have := HJ2.out; have := HK2.out; have := HK3.out; omega
                                case rel => exact ⟨(wrap64 (x9_3 + (wrap64 (rd l0 x42_3)))), (wrap64 (x42_3 + 1)), (by first | rfl | (simp; done) | (simp [*]; done)), (by first | rfl | (simp; done) | (simp [*]; done)), H', ⟨by have := HJ2.out; have := HK2.out; have := HK3.out; omega⟩, ⟨by (with_reducible repeat (first | apply Kd.R_alloc | apply Kd.R_drewN | apply Kd.R_drew)); exact HO_133000.out⟩, ⟨by (with_reducible repeat (first | refine blk_drewN ?_ _ | refine blk_drew ?_ | refine blk_alloc ?_ _)); exact BK132.out⟩, ⟨by repeat (first | (with_reducible first | exact HB.out | apply below_alloc | apply pw_below_drewN | apply below_drew1 | refine below_set ?_ GE132.out) | exact HB.out)⟩⟩
                              · rw [if_neg c28] at H
                                exact absurd H (by simp)
                            · rw [if_neg c27] at H
                              have c27b0 : ((rd t122 x42_3) == x9_3) = false := beq_eq_false_iff_ne.mpr c27
                              have c27b1 : ((rd t122 x42_3) != x9_3) = true := bne_iff_ne.mpr c27
                              obtain rfl := Option.some.inj H
                              have hcz30_0 : wr.cell? ⟨gb132, 0, none⟩ = some (.slice Ao20 t122.length co20) := (blk_cell BK132.out 0).trans rfl
                              have hcz30_1 : wr.cell? ⟨gb132, 1, none⟩ = some (.int .i64 t125) := (blk_cell BK132.out 1).trans rfl
                              have hcz30_2 : wr.cell? ⟨gb132, 2, none⟩ = some (.int .i64 t126) := (blk_cell BK132.out 2).trans rfl
                              have hcz30_3 : wr.cell? ⟨gb132, 3, none⟩ = some (.int .i64 t127) := (blk_cell BK132.out 3).trans rfl
                              have hcz30_4 : wr.cell? ⟨gb132, 4, none⟩ = some (.int .i64 t128) := (blk_cell BK132.out 4).trans rfl
                              have hcz30_5 : wr.cell? ⟨gb132, 5, none⟩ = some (.int .i64 t129) := (blk_cell BK132.out 5).trans rfl
                              have hcz30_6 : wr.cell? ⟨gb132, 6, none⟩ = some (.bool t130) := (blk_cell BK132.out 6).trans rfl
                              have hfz30_0 := blk_frozen BK132.out 0
                              have hfz30_1 := blk_frozen BK132.out 1
                              have hfz30_2 := blk_frozen BK132.out 2
                              have hfz30_3 := blk_frozen BK132.out 3
                              have hfz30_4 := blk_frozen BK132.out 4
                              have hfz30_5 := blk_frozen BK132.out 5
                              have hfz30_6 := blk_frozen BK132.out 6
                              have p133 : 0 ≤ (x42_3 : Int) := of_decide_eq_true (by first | (with_reducible assumption) | assumption)
                              have q133 : x42_3 < (t122.length : Int) := of_decide_eq_true (by first | (with_reducible assumption) | assumption)
                              obtain ⟨ad133, e133, hx133_0⟩ := Kd.at_int (Kd.R_reads' HO_133000.out).2.2 x42_3 p133 q133
                              cases e133
                              replace p133 := eq_true p133
                              replace q133 := eq_true q133
                              go_wp2
                              go_ret
                              exact ⟨by first | rfl | (simp [errW_none, errW_some] <;> rfl) | (simp [*, errW_none, errW_some] <;> rfl), by repeat (first | (with_reducible first | exact HB.out | apply below_alloc | apply pw_below_drewN | apply below_drew1 | refine below_set ?_ GE132.out) | exact HB.out)⟩
                          · rw [if_neg c26] at H
                            exact absurd H (by simp)
                        · rw [if_neg c25] at H
                          exact absurd H (by simp)
                      · rw [if_neg c24] at H
                        have c24b0 : ((t122.length : Int) == (l0.length : Int)) = false := beq_eq_false_iff_ne.mpr c24
                        have c24b1 : ((t122.length : Int) != (l0.length : Int)) = true := bne_iff_ne.mpr c24
                        have c24b2 : (t122.length == l0.length) = false := by first | simpa using c24 | (simp at c24 ⊢; omega)
                        obtain rfl := Option.some.inj H
                        have hcz31_0 : wr.cell? ⟨gb132, 0, none⟩ = some (.slice Ao20 t122.length co20) := (blk_cell BK132.out 0).trans rfl
                        have hcz31_1 : wr.cell? ⟨gb132, 1, none⟩ = some (.int .i64 t125) := (blk_cell BK132.out 1).trans rfl
                        have hcz31_2 : wr.cell? ⟨gb132, 2, none⟩ = some (.int .i64 t126) := (blk_cell BK132.out 2).trans rfl
                        have hcz31_3 : wr.cell? ⟨gb132, 3, none⟩ = some (.int .i64 t127) := (blk_cell BK132.out 3).trans rfl
                        have hcz31_4 : wr.cell? ⟨gb132, 4, none⟩ = some (.int .i64 t128) := (blk_cell BK132.out 4).trans rfl
                        have hcz31_5 : wr.cell? ⟨gb132, 5, none⟩ = some (.int .i64 t129) := (blk_cell BK132.out 5).trans rfl
                        have hcz31_6 : wr.cell? ⟨gb132, 6, none⟩ = some (.bool t130) := (blk_cell BK132.out 6).trans rfl
                        have hfz31_0 := blk_frozen BK132.out 0
                        have hfz31_1 := blk_frozen BK132.out 1
                        have hfz31_2 := blk_frozen BK132.out 2
                        have hfz31_3 := blk_frozen BK132.out 3
                        have hfz31_4 := blk_frozen BK132.out 4
                        have hfz31_5 := blk_frozen BK132.out 5
                        have hfz31_6 := blk_frozen BK132.out 6
                        go_wp2
                        go_ret
                        exact ⟨by first | rfl | (simp [errW_none, errW_some] <;> rfl) | (simp [*, errW_none, errW_some] <;> rfl), by repeat (first | (with_reducible first | exact HB.out | apply below_alloc | apply pw_below_drewN | apply below_drew1 | refine below_set ?_ GE132.out) | exact HB.out)⟩
                    · replace c23 := Bool.eq_false_iff.mpr c23
                      subst c23
                      have H1 : (some false) = some r := by rw [if_neg (show ¬ (false = true) by decide)] at H; exact H
                      clear H
                      have H := H1
                      clear H1
                      obtain rfl := Option.some.inj H
                      go_wp2
                      go_ret
                      exact ⟨by first | rfl | (simp [errW_none, errW_some] <;> rfl) | (simp [*, errW_none, errW_some] <;> rfl), by repeat (first | (with_reducible first | exact HB.out | apply below_alloc | apply pw_below_drewN | apply below_drew1 | refine below_set ?_ GE132.out) | exact HB.out)⟩
                  · rw [if_neg c22] at H
                    have c22b0 : decide (x42_3 < (l0.length : Int)) = false := decide_eq_false c22
                    clear c22
                    by_cases c32 : t131 = true
                    · subst c32
                      have H1 : (if t125 = x9_3 then (if a1 = true then (some (t130 == ((l0.length : Int) == 0))) else (some (t130 == false))) else (some false)) = some r := by rw [if_pos rfl] at H; exact H
                      clear H
                      have H := H1
                      clear H1
                      by_cases c33 : t125 = x9_3
                      · rw [if_pos c33] at H
                        have c33b0 : (t125 == x9_3) = true := beq_iff_eq.mpr c33
                        have c33b1 : (t125 != x9_3) = false := bne_eq_false_iff_eq.mpr c33
                        clear c33
                        by_cases c34 : a1 = true
                        · subst c34
                          have H1 : (some (t130 == ((l0.length : Int) == 0))) = some r := by rw [if_pos rfl] at H; exact H
                          clear H
                          have H := H1
                          clear H1
                          obtain rfl := Option.some.inj H
                          have hcz35_0 : wr.cell? ⟨gb132, 0, none⟩ = some (.slice Ao20 t122.length co20) := (blk_cell BK132.out 0).trans rfl
                          have hcz35_1 : wr.cell? ⟨gb132, 1, none⟩ = some (.int .i64 t125) := (blk_cell BK132.out 1).trans rfl
                          have hcz35_2 : wr.cell? ⟨gb132, 2, none⟩ = some (.int .i64 t126) := (blk_cell BK132.out 2).trans rfl
                          have hcz35_3 : wr.cell? ⟨gb132, 3, none⟩ = some (.int .i64 t127) := (blk_cell BK132.out 3).trans rfl
                          have hcz35_4 : wr.cell? ⟨gb132, 4, none⟩ = some (.int .i64 t128) := (blk_cell BK132.out 4).trans rfl
                          have hcz35_5 : wr.cell? ⟨gb132, 5, none⟩ = some (.int .i64 t129) := (blk_cell BK132.out 5).trans rfl
                          have hcz35_6 : wr.cell? ⟨gb132, 6, none⟩ = some (.bool t130) := (blk_cell BK132.out 6).trans rfl
                          have hfz35_0 := blk_frozen BK132.out 0
                          have hfz35_1 := blk_frozen BK132.out 1
                          have hfz35_2 := blk_frozen BK132.out 2
                          have hfz35_3 := blk_frozen BK132.out 3
                          have hfz35_4 := blk_frozen BK132.out 4
                          have hfz35_5 := blk_frozen BK132.out 5
                          have hfz35_6 := blk_frozen BK132.out 6
                          go_wp2
                          go_ret
                          exact ⟨by first | rfl | (simp [errW_none, errW_some] <;> rfl) | (simp [*, errW_none, errW_some] <;> rfl), by repeat (first | (with_reducible first | exact HB.out | apply below_alloc | apply pw_below_drewN | apply below_drew1 | refine below_set ?_ GE132.out) | exact HB.out)⟩
                        · replace c34 := Bool.eq_false_iff.mpr c34
                          subst c34
                          have H1 : (some (t130 == false)) = some r := by rw [if_neg (show ¬ (false = true) by decide)] at H; exact H
                          clear H
                          have H := H1
                          clear H1
                          obtain rfl := Option.some.inj H
                          have hcz36_0 : wr.cell? ⟨gb132, 0, none⟩ = some (.slice Ao20 t122.length co20) := (blk_cell BK132.out 0).trans rfl
                          have hcz36_1 : wr.cell? ⟨gb132, 1, none⟩ = some (.int .i64 t125) := (blk_cell BK132.out 1).trans rfl
                          have hcz36_2 : wr.cell? ⟨gb132, 2, none⟩ = some (.int .i64 t126) := (blk_cell BK132.out 2).trans rfl
                          have hcz36_3 : wr.cell? ⟨gb132, 3, none⟩ = some (.int .i64 t127) := (blk_cell BK132.out 3).trans rfl
                          have hcz36_4 : wr.cell? ⟨gb132, 4, none⟩ = some (.int .i64 t128) := (blk_cell BK132.out 4).trans rfl
                          have hcz36_5 : wr.cell? ⟨gb132, 5, none⟩ = some (.int .i64 t129) := (blk_cell BK132.out 5).trans rfl
                          have hcz36_6 : wr.cell? ⟨gb132, 6, none⟩ = some (.bool t130) := (blk_cell BK132.out 6).trans rfl
                          have hfz36_0 := blk_frozen BK132.out 0
                          have hfz36_1 := blk_frozen BK132.out 1
                          have hfz36_2 := blk_frozen BK132.out 2
                          have hfz36_3 := blk_frozen BK132.out 3
                          have hfz36_4 := blk_frozen BK132.out 4
                          have hfz36_5 := blk_frozen BK132.out 5
                          have hfz36_6 := blk_frozen BK132.out 6
                          go_wp2
                          go_ret
                          exact ⟨by first | rfl | (simp [errW_none, errW_some] <;> rfl) | (simp [*, errW_none, errW_some] <;> rfl), by repeat (first | (with_reducible first | exact HB.out | apply below_alloc | apply pw_below_drewN | apply below_drew1 | refine below_set ?_ GE132.out) | exact HB.out)⟩
                      · rw [if_neg c33] at H
                        have c33b0 : (t125 == x9_3) = false := beq_eq_false_iff_ne.mpr c33
                        have c33b1 : (t125 != x9_3) = true := bne_iff_ne.mpr c33
                        obtain rfl := Option.some.inj H
                        have hcz37_0 : wr.cell? ⟨gb132, 0, none⟩ = some (.slice Ao20 t122.length co20) := (blk_cell BK132.out 0).trans rfl
                        have hcz37_1 : wr.cell? ⟨gb132, 1, none⟩ = some (.int .i64 t125) := (blk_cell BK132.out 1).trans rfl
                        have hcz37_2 : wr.cell? ⟨gb132, 2, none⟩ = some (.int .i64 t126) := (blk_cell BK132.out 2).trans rfl
                        have hcz37_3 : wr.cell? ⟨gb132, 3, none⟩ = some (.int .i64 t127) := (blk_cell BK132.out 3).trans rfl
                        have hcz37_4 : wr.cell? ⟨gb132, 4, none⟩ = some (.int .i64 t128) := (blk_cell BK132.out 4).trans rfl
                        have hcz37_5 : wr.cell? ⟨gb132, 5, none⟩ = some (.int .i64 t129) := (blk_cell BK132.out 5).trans rfl
                        have hcz37_6 : wr.cell? ⟨gb132, 6, none⟩ = some (.bool t130) := (blk_cell BK132.out 6).trans rfl
                        have hfz37_0 := blk_frozen BK132.out 0
                        have hfz37_1 := blk_frozen BK132.out 1
                        have hfz37_2 := blk_frozen BK132.out 2
                        have hfz37_3 := blk_frozen BK132.out 3
                        have hfz37_4 := blk_frozen BK132.out 4
                        have hfz37_5 := blk_frozen BK132.out 5
                        have hfz37_6 := blk_frozen BK132.out 6
                        go_wp2
                        go_ret
                        exact ⟨by first | rfl | (simp [errW_none, errW_some] <;> rfl) | (simp [*, errW_none, errW_some] <;> rfl), by repeat (first | (with_reducible first | exact HB.out | apply below_alloc | apply pw_below_drewN | apply below_drew1 | refine below_set ?_ GE132.out) | exact HB.out)⟩
                    · replace c32 := Bool.eq_false_iff.mpr c32
                      subst c32
                      have H1 : (some false) = some r := by rw [if_neg (show ¬ (false = true) by decide)] at H; exact H
                      clear H
                      have H := H1
                      clear H1
                      obtain rfl := Option.some.inj H
                      go_wp2
                      go_ret
                      exact ⟨by first | rfl | (simp [errW_none, errW_some] <;> rfl) | (simp [*, errW_none, errW_some] <;> rfl), by repeat (first | (with_reducible first | exact HB.out | apply below_alloc | apply pw_below_drewN | apply below_drew1 | refine below_set ?_ GE132.out) | exact HB.out)⟩

/-- THE ONE PURE STATEMENT of decoupagelaw12_PileApart: yours. -/
def decoupagelaw12_PileApart.Pure : Prop := ∀ (l0 : List Int) (a1 : Bool), l0.length ≤ maxLen → l0.length * 2 ≤ 140737488351232 → (∀ x ∈ l0, (Lit.int .u16 x).wf = true) → ∃ k, decoupagelaw12_PileApart.f k l0 a1 = some true
theorem decoupagelaw12_PileApart.walk (P : decoupagelaw12_PileApart.Pure) (a0 : Option Addr) (len0 cap0 : Nat) (z0 : List Int) (a1 : Bool) (w : World) (w0 : (a0 = none ∧ len0 = 0 ∧ cap0 = 0 ∧ z0 = []) ∨ ∃ x, a0 = some x ∧ len0 ≤ cap0 ∧ cap0 ≤ maxLen ∧ z0.length = cap0 ∧ (∀ i, i < z0.length → w.cell? (x.add i) = some (.int .u16 (z0.getD i 0))) ∧ ∀ n ∈ z0, (Lit.int .u16 n).wf = true) (y0 : len0 * 2 ≤ 140737488351232) :
    Calls Try.prog 11 #[.slice a0 len0 cap0, .bool a1] w fun e w' => e = .returned (.bool true) ∧ Below w.heap.size w w' := by
  obtain ⟨l0, rfl, hr0, hm0, hw0, hc0⟩ := ReadsInt.ofRowC w0
  obtain ⟨k, h⟩ := P l0 a1 hm0 y0 hw0
  refine (decoupagelaw12_PileApart.calls k _ _ l0 a1 true w (Kd.C_of_reads (d := (0 : Int)) (h1 := fun _ => rfl) hr0) hc0 h).mono ?_
  rintro e w' ⟨rfl, hd⟩
  exact ⟨rfl, hd⟩

end Go.Proofs.Ytpoeebngkakmeaa.PPileApart
