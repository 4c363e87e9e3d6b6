/- What is proved: the contract of a box put into a pile. Conditions: those in the statement. -/
import Derived.Test.YtpoeebngkakmeaaPutA
import Derived.Deep.DeepCutAuto
import Derived.Deep.RegionWith
import Derived.Deep.RegionHeld3
import Derived.Deep.DrawnRows
import Derived.Deep.QuietTactic
import Derived.BigQuiet
import Derived.StillTailTactics
import Derived.Lib.Hide
import Derived.Outline
namespace Go.Proofs.Ytpoeebngkakmeaa.PutB
open Go Go.RowKit Go.Proofs.Ytpoeebngkakmeaa.PPIn Go.Proofs.YtpoeebngkakmeaaW.PrintWords Go.Proofs.YtpoeebngkakmeaaW.PrintLast Go.Proofs.YtpoeebngkakmeaaW.PrintMore Go.Proofs.Ytpoeebngkakmeaa.Pure Go.Proofs.Ytpoeebngkakmeaa.PutA Go.Proofs.Ytpoeebngkakmeaa.AskWords
set_option linter.unusedVariables false
set_option linter.unusedSimpArgs false
attribute [local go_sem ↓] Go.wp_at_zero Go.wp_at_succ
theorem join_any (a b c d : Int) (w : World) : Calls Try.prog 22 #[.agg #[.int .i64 a, .int .i64 b], .agg #[.int .i64 c, .int .i64 d]] w fun e w' => e = .returned (.agg #[.int .i64 (mx a c), .int .i64 (mn b d)]) ∧ Below w.heap.size w w' := strut_Join.calls a b c d _ _ w rfl
theorem value_any (a b : Int) (w : World) : Calls Try.prog 25 #[.agg #[.int .i64 a, .int .i64 b]] w fun e w' => e = .returned (.tuple #[.int .i64 (fsum [a, b]).1, .bool (fsum [a, b]).2]) ∧ Below w.heap.size w w' := strut_Value.calls 9 a b _ _ w (by unfold strut_Value.f; rw [sum_eq _ 9 (by simp) (by simp)]; rfl)
theorem fits_any (a : Int) (w : World) : Calls Try.prog 46 #[.int .i64 a] w fun e w' => e = .returned (.bool (decide (fit a))) ∧ Drawn0 w w' := fix_Fits.calls a _ w (fits_fit a)
theorem info_i64 : (Try.prog.info? 2).map (fun i => (i.zero, i.size, i.bytes)) = some (some (.int .i64 0), 1, 8) := by kernel_rfl
theorem sum2_any (a b : Int) (n c : Nat) (A : Option Addr) {w : World} (h : n = [a, b].length ∧ n ≤ c ∧ Kd.C (Kd.int .i64) w A [a, b].length [a, b]) : Calls Try.prog 39 #[.slice A n c] w fun e w' => e = .returned (.tuple #[.int .i64 (fsum [a, b]).1, .bool (fsum [a, b]).2]) ∧ Drawn0 w w' := by
  obtain ⟨rfl, hc, hr⟩ := h
  exact fix_Sum.calls 9 A c [a, b] _ _ w hr hc (sum_eq _ 9 (by simp) (by simp))
/-- What put leaves. -/
def PutEnd (B g : Nat) (w0 : World) (s : St) (c : Ch) (e : Ending) (w' : World) : Prop := e = .returned (.bool (putS s c).2) ∧ ∃ v', PW B g [] w0 w' v' (putS s c).1.ys ((putS s c).1.cells v')
set_option maxHeartbeats 4000000 in
set_option maxRecDepth 100000 in
theorem put_any (B g : Nat) (w0 W : World) (v : Value) (s : St) (c : Ch) (h : PW B g [] w0 W v s.ys (s.cells v)) (hl : s.ys.length < 1000000) :
    Calls Try.prog 42 #[.pointer (some ⟨g, 0, none⟩), .agg c.cells] W (PutEnd B g w0 s c) := by
  obtain ⟨ys, e, tp, tn, cp, cn, top⟩ := s
  obtain ⟨a1, a2, b1, b2, i1, i2, thr, hi⟩ := c
  have HL := Lib.hid hl
  clear hl
  have hk := h.alloc (.cells (Ch.cells ⟨a1, a2, b1, b2, i1, i2, thr, hi⟩) 64 (0, 0))
  have cG := fun o => h.cell o
  have fG := fun o => h.frozen o
  clear h
  unfold Ch.cells St.cells at *
  simp only at *
  go_enter Try.func42, Try.ntmps42
  go_upto_region 1 with fail
  obtain ⟨gb, hgb⟩ : ∃ n, n = W.heap.size := ⟨_, rfl⟩
  obtain ⟨W1, hW1⟩ : ∃ w_ : World, w_ = W.alloc (.cells #[.int .i64 a1, .int .i64 a2, .int .i64 b1, .int .i64 b2, .int .i64 i1, .int .i64 i2, .bool thr, .int .i64 hi] 64 (0, 0)) := ⟨_, rfl⟩
  rw [← hgb, ← hW1] at hk ⊢
  clear cG fG hgb hW1 W
  have HK := Lib.hid hk
  have cG := fun o => hk.cell o
  have fG := fun o => hk.frozen o
  have cC := fun o => hk.cellB List.mem_cons_self o
  have fC := fun o => hk.frozenB List.mem_cons_self o
  clear hk
  obtain ⟨A, cc, rfl⟩ := Kd.R_slice HK.out.hR
  cases top with
  | true =>
    go_upto_region 2 with fail
    go_wp2_with (at_builtin; go_loud (refine Kd.R_append (Kd.int .i64) (w0 := w0) B rfl (.tmp 20) (.tmp 21) 42 2 (.int .i64 0) 8 rfl Try.underlying42 info_i64 rfl (by decide) (by omega) _ ys 0 [.int .i64 0] (fun k => k ≠ g) (fun _ => False) rfl rfl ?aP (fun _ hk => hk.elim) ?aF ?aO ?aB ?aS ?aL ?_; (case aP => exact rfl); (case aB => exact HK.out.hB); (case aF => exact (fun k hk => by have := HK.out.lt; omega)); (case aO => exact HK.out.hR); (case aS => exact (by have := HK.out.lt; have := HK.out.le; omega)); (case aL => have h9 : ys.length < 1000000 := HL.out; omega); intro v1 w1 hR hb hgr hat; have HA := Lib.hid (HK.out.grown hR hb hgr hat); clear hR hb hgr hat; obtain ⟨A1, c1, rfl⟩ := Kd.R_slice HA.out.hR; have cA := fun o => HA.out.cell o; have fA := fun o => HA.out.frozen o; have cAC := fun o => HA.out.cellB List.mem_cons_self o; have fAC := fun o => HA.out.frozenB List.mem_cons_self o))
    obtain ⟨W2, hW2⟩ : ∃ w_ : World, w_ = w1.setCell ⟨g, 0, none⟩ (.slice A1 (ys.length + 1) c1) := ⟨_, rfl⟩
    have hk : PW B g [(gb, .cells #[.int .i64 a1, .int .i64 a2, .int .i64 b1, .int .i64 b2, .int .i64 i1, .int .i64 i2, .bool thr, .int .i64 hi] 64 (0, 0))] w0 W2 (.slice A1 (ys.length + 1) c1) (ys ++ [0]) #[.slice A1 (ys.length + 1) c1, .int .i64 e, .int .i64 tp, .int .i64 tn, .int .i64 cp, .int .i64 cn, .bool true] := by
      rw [hW2]
      have h9 := HA.out.set 0 (.slice A1 (ys ++ [0]).length c1)
      simpa using h9
    rw [← hW2]
    clear hW2 HA cA fA cAC fAC
    have c2 := fun o => hk.cell o
    have f2 := fun o => hk.frozen o
    have c2C := fun o => hk.cellB List.mem_cons_self o
    have f2C := fun o => hk.frozenB List.mem_cons_self o
    have H2 := Lib.hid hk
    clear hk
    go_cut [] (fun wx => PW B g [(gb, .cells #[.int .i64 a1, .int .i64 a2, .int .i64 b1, .int .i64 b2, .int .i64 i1, .int .i64 i2, .bool thr, .int .i64 hi] 64 (0, 0))] w0 wx (.slice A1 (ys.length + 1) c1) (ys ++ [0]) #[.slice A1 (ys.length + 1) c1, .int .i64 e, .int .i64 (mx tp a1), .int .i64 (mn tn a2), .int .i64 cp, .int .i64 cn, .bool true])
    case first =>
      go_region_with (go_at_call 22; refine (join_any _ _ _ _ _).mono ?_; rintro e9 w3 ⟨rfl, hb⟩; have H3 := Lib.hid (H2.out.drew.call hb); clear hb; have c3 := fun o => H3.out.cell o; have f3 := fun o => H3.out.frozen o)
      all_goals (go_wp2_with fail; go_meet; exact (H3.out.set 2 _).set 3 _)
    case rest =>
      have hk := hcut
      clear hcut H2 c2 f2 c2C f2C
      have c2 := fun o => hk.cell o
      have f2 := fun o => hk.frozen o
      have c2C := fun o => hk.cellB List.mem_cons_self o
      have f2C := fun o => hk.frozenB List.mem_cons_self o
      have H2 := Lib.hid hk
      clear hk
      cases thr with
      | true =>
        go_wp2_with (go_at_call 46; refine (fits_any _ _).mono ?_; rintro e9 w4 ⟨rfl, hd⟩; have H4 := Lib.hid (H2.out.call (drawn_below hd)); clear hd)
        go_ret
        exact ⟨by simp [putS], _, H4.out.drop⟩
      | false =>
        go_upto_region 5 with fail
        go_cut [] (fun wx => PW B g [] w0 wx (.slice A1 (ys.length + 1) c1) (ys ++ [0]) #[.slice A1 (ys.length + 1) c1, .int .i64 hi, .int .i64 (mx tp a1), .int .i64 (mn tn a2), .int .i64 b1, .int .i64 b2, .bool false])
        case first =>
          go_region_with fail
          all_goals (go_wp2_with fail; go_meet; first | exact ((((H2.out.set 6 _).set 1 _).set 4 _).set 5 _).drew.drop | exact ((((H2.out.set 6 _).set 1 _).set 4 _).set 5 _).drop | exact ((((H2.out.set 6 _).set 4 _).set 5 _).set 1 _).drew.drop | exact ((((H2.out.set 6 _).set 4 _).set 5 _).set 1 _).drop | exact ((((H2.out.set 1 _).set 6 _).set 4 _).set 5 _).drew.drop | exact ((((H2.out.set 1 _).set 6 _).set 4 _).set 5 _).drop | exact ((((H2.out.set 1 _).set 4 _).set 5 _).set 6 _).drew.drop | exact ((((H2.out.set 1 _).set 4 _).set 5 _).set 6 _).drop | exact ((((H2.out.set 4 _).set 5 _).set 6 _).set 1 _).drew.drop | exact ((((H2.out.set 4 _).set 5 _).set 6 _).set 1 _).drop | exact ((((H2.out.set 4 _).set 5 _).set 1 _).set 6 _).drew.drop | exact ((((H2.out.set 4 _).set 5 _).set 1 _).set 6 _).drop)
        case rest =>
          have hk := hcut
          clear hcut H2 c2 f2 c2C f2C
          have c2 := fun o => hk.cell o
          have f2 := fun o => hk.frozen o
          have H2 := Lib.hid hk
          clear hk
          go_wp2_with (go_at_call 46; refine (fits_any _ _).mono ?_; rintro e9 w4 ⟨rfl, hd⟩; have H4 := Lib.hid (H2.out.call (drawn_below hd)); clear hd)
          go_ret
          exact ⟨by simp [putS], _, H4.out.drop⟩
  | false =>
    cases thr with
    | true =>
      go_upto_region 8 with fail
      obtain ⟨W4, hW4⟩ : ∃ w_ : World, w_ = W1.alloc (.cells #[.int .i64 a1, .int .i64 a2] 44 (0, 0)) := ⟨_, rfl⟩
      have hle : B ≤ W1.heap.size := by have := HK.out.lt; have := HK.out.le; omega
      have hk := HK.out.alloc (.cells #[.int .i64 a1, .int .i64 a2] 44 (0, 0))
      obtain ⟨g5, hg5⟩ : ∃ n, n = W1.heap.size := ⟨_, rfl⟩
      rw [← hg5] at hle
      rw [← hW4, ← hg5] at hk ⊢
      have HSZ := Lib.hid hle
      clear hle hW4 hg5 cG fG cC fC HK W1
      have HK := Lib.hid hk
      have cP := fun o => hk.cell o
      have cX := fun o => hk.cellB List.mem_cons_self o
      have fX := fun o => hk.frozenB List.mem_cons_self o
      have cY := fun o => hk.cellB (List.mem_cons_of_mem _ List.mem_cons_self) o
      clear hk
      go_upto_region 10 with fail
      obtain ⟨W5, hW5⟩ : ∃ w_ : World, w_ = (W4.setCell ⟨g5, 0, none⟩ (.int .i64 i1)).setCell ⟨g5, 1, none⟩ (.int .i64 i2) := ⟨_, rfl⟩
      have hk : PW B g [(g5, .cells #[.int .i64 i1, .int .i64 i2] 44 (0, 0)), (gb, .cells #[.int .i64 a1, .int .i64 a2, .int .i64 b1, .int .i64 b2, .int .i64 i1, .int .i64 i2, .bool true, .int .i64 hi] 64 (0, 0))] w0 W5 (.slice A ys.length cc) ys #[.slice A ys.length cc, .int .i64 e, .int .i64 tp, .int .i64 tn, .int .i64 cp, .int .i64 cn, .bool false] := by
        rw [hW5]
        exact (HK.out.setIn 0 (.int .i64 i1) HSZ.out).setIn 1 (.int .i64 i2) HSZ.out
      rw [← hW5]
      clear hW5 cP cX fX cY HK W4
      have HK := Lib.hid hk
      have cP := fun o => hk.cell o
      have cX := fun o => hk.cellB List.mem_cons_self o
      have fX := fun o => hk.frozenB List.mem_cons_self o
      have cY := fun o => hk.cellB (List.mem_cons_of_mem _ List.mem_cons_self) o
      clear hk
      go_cut [6, 7] (fun x y wx => x = .int .i64 (fsum [mx cp i1, mn cn i2]).1 ∧ y = .bool (fsum [mx cp i1, mn cn i2]).2 ∧ PW B g [(gb, .cells #[.int .i64 a1, .int .i64 a2, .int .i64 b1, .int .i64 b2, .int .i64 i1, .int .i64 i2, .bool true, .int .i64 hi] 64 (0, 0))] w0 wx (.slice A ys.length cc) ys #[.slice A ys.length cc, .int .i64 e, .int .i64 tp, .int .i64 tn, .int .i64 cp, .int .i64 cn, .bool false])
      case first =>
        go_region_with (first | (go_at_call 22; refine (join_any _ _ _ _ _).mono ?_; rintro e9 w3 ⟨rfl, hb⟩; have H3 := Lib.hid (HK.out.drew.call hb); clear hb) | (go_at_call 25; refine (value_any _ _ _).mono ?_; rintro e9 w5 ⟨rfl, hb⟩; have H5 := Lib.hid (H3.out.call hb); clear hb))
        all_goals (go_wp2_with fail; go_meet; first | exact ⟨rfl, rfl, H5.out.skipB⟩ | exact ⟨rfl, rfl, H5.out.drew.skipB⟩)
      case rest =>
        obtain ⟨rfl, rfl, hk⟩ := hcut
        have H4 := Lib.hid hk
        clear hk HK cP cX fX cY
        have cP := fun o => H4.out.cell o
        have fP := fun o => H4.out.frozen o
        have cX := fun o => H4.out.cellB List.mem_cons_self o
        have fX := fun o => H4.out.frozenB List.mem_cons_self o
        go_upto_region 14 with (first | ((with_reducible refine gate_dst (N := 78) rfl ?_); refine Kd.R_lit (Kd.int .i64) _ 2 ?hg (N := 78) ?hd (xs := ([e, (fsum [mx cp i1, mn cn i2]).1] : List Int)) (inner := [.int .i64 e, .int .i64 (fsum [mx cp i1, mn cn i2]).1]) (ok := fun _ => True) (okp := fun _ => True) ?hr ?hp (fun _ hk => hk) trivial (Below.refl _ _) (Nat.le_refl _) (by simp) ?_; (case hd => rfl); (case hg => rfl); (case hr => first | (go_simp; done) | (go_simp; rfl)); (case hp => exact (Reps.one (show Kd.M (Kd.int .i64) _ _ _ _ [.int .i64 e] from rfl) (Reps.one (show Kd.M (Kd.int .i64) _ _ _ _ [.int .i64 (fsum [mx cp i1, mn cn i2]).1] from rfl) (Reps.none _ _)))); intro v78 w5 ho5 hb hg_ hnew_; clear hg_ hnew_; have H5 := Lib.hid (H4.out.call hb); have OH5 := Lib.hid ho5; clear hb ho5; obtain ⟨A5, cA5, rfl⟩ := Kd.R_slice OH5.out; have cPH5 := fun o => H5.out.cell o; have fPH5 := fun o => H5.out.frozen o; have cXH5 := fun o => H5.out.cellB List.mem_cons_self o; have fXH5 := fun o => H5.out.frozenB List.mem_cons_self o) | (go_at_call 39; refine (sum2_any _ _ _ _ _ (Kd.R_reads' OH5.out)).mono ?_; rintro e9 w6 ⟨rfl, hd⟩; have H6 := Lib.hid (H5.out.call (drawn_below hd)); clear hd; have cPH6 := fun o => H6.out.cell o; have fPH6 := fun o => H6.out.frozen o; have cXH6 := fun o => H6.out.cellB List.mem_cons_self o; have fXH6 := fun o => H6.out.frozenB List.mem_cons_self o) | (at_builtin; refine Kd.R_append (Kd.int .i64) (w0 := w0) B rfl (.tmp 86) (.tmp 88) 42 2 (.int .i64 0) 8 rfl Try.underlying42 info_i64 rfl (by decide) (by omega) _ ys (fsum [e, (fsum [mx cp i1, mn cn i2]).1]).1 [.int .i64 (fsum [e, (fsum [mx cp i1, mn cn i2]).1]).1] (fun k => k ≠ g) (fun _ => False) rfl rfl ?aP (fun _ hk => hk.elim) ?aF ?aO ?aB ?aS ?aL ?_; (case aP => exact rfl); (case aB => exact H6.out.hB); (case aF => exact (fun k hk => by have := H6.out.lt; omega)); (case aO => exact H6.out.hR); (case aS => exact (by have := H6.out.lt; have := H6.out.le; omega)); (case aL => have h9 : ys.length < 1000000 := HL.out; omega); intro v1 w1 hR hb hgr hat; have HA := Lib.hid (H6.out.grown hR hb hgr hat); clear hR hb hgr hat; obtain ⟨A1, c1, rfl⟩ := Kd.R_slice HA.out.hR; have cPHA := fun o => HA.out.cell o; have fPHA := fun o => HA.out.frozen o; have cXHA := fun o => HA.out.cellB List.mem_cons_self o; have fXHA := fun o => HA.out.frozenB List.mem_cons_self o))
        obtain ⟨W7, hW7⟩ : ∃ w_ : World, w_ = w1.setCell ⟨g, 0, none⟩ (.slice A1 (ys.length + 1) c1) := ⟨_, rfl⟩
        have hk : PW B g [(gb, .cells #[.int .i64 a1, .int .i64 a2, .int .i64 b1, .int .i64 b2, .int .i64 i1, .int .i64 i2, .bool true, .int .i64 hi] 64 (0, 0))] w0 W7 (.slice A1 (ys.length + 1) c1) (ys ++ [(fsum [e, (fsum [mx cp i1, mn cn i2]).1]).1]) #[.slice A1 (ys.length + 1) c1, .int .i64 e, .int .i64 tp, .int .i64 tn, .int .i64 cp, .int .i64 cn, .bool false] := by
          rw [hW7]
          have h9 := HA.out.set 0 (.slice A1 (ys ++ [(fsum [e, (fsum [mx cp i1, mn cn i2]).1]).1]).length c1)
          simpa using h9
        rw [← hW7]
        have H7 := Lib.hid hk
        clear hk hW7
        have c7 := fun o => H7.out.cell o
        have f7 := fun o => H7.out.frozen o
        have x7 := fun o => H7.out.cellB List.mem_cons_self o
        have y7 := fun o => H7.out.frozenB List.mem_cons_self o
        go_cut [] (fun wx => PW B g [] w0 wx (.slice A1 (ys.length + 1) c1) (ys ++ [(fsum [e, (fsum [mx cp i1, mn cn i2]).1]).1]) #[.slice A1 (ys.length + 1) c1, .int .i64 e, .int .i64 tp, .int .i64 tn, .int .i64 (mx cp a1), .int .i64 (mn cn a2), .bool false])
        case first =>
          go_region_with (go_at_call 22; refine (join_any _ _ _ _ _).mono ?_; rintro e9 w3 ⟨rfl, hb⟩; have H3 := Lib.hid (H7.out.drew.call hb); clear hb; have c3 := fun o => H3.out.cell o; have f3 := fun o => H3.out.frozen o)
          all_goals (go_wp2_with fail; go_meet; exact ((H3.out.set 4 _).set 5 _).drop)
        case rest =>
          have H10 := Lib.hid hcut
          clear hcut
          obtain ⟨q1, hq1⟩ : ∃ q, (fsum [mx cp i1, mn cn i2]).2 = q := ⟨_, rfl⟩
          obtain ⟨q2, hq2⟩ : ∃ q, (fsum [e, (fsum [mx cp i1, mn cn i2]).1]).2 = q := ⟨_, rfl⟩
          rw [hq1, hq2]
          cases q1 <;> cases q2
          all_goals (go_wp2_with fail; go_ret; exact ⟨by simp [putS, hq1, hq2], _, H10.out⟩)
    | false =>
      go_upto_region 8 with fail
      obtain ⟨W4, hW4⟩ : ∃ w_ : World, w_ = W1.alloc (.cells #[.int .i64 a1, .int .i64 a2] 44 (0, 0)) := ⟨_, rfl⟩
      have hle : B ≤ W1.heap.size := by have := HK.out.lt; have := HK.out.le; omega
      have hk := HK.out.alloc (.cells #[.int .i64 a1, .int .i64 a2] 44 (0, 0))
      obtain ⟨g5, hg5⟩ : ∃ n, n = W1.heap.size := ⟨_, rfl⟩
      rw [← hg5] at hle
      rw [← hW4, ← hg5] at hk ⊢
      have HSZ := Lib.hid hle
      clear hle hW4 hg5 cG fG cC fC HK W1
      have HK := Lib.hid hk
      have cP := fun o => hk.cell o
      have cX := fun o => hk.cellB List.mem_cons_self o
      have fX := fun o => hk.frozenB List.mem_cons_self o
      have cY := fun o => hk.cellB (List.mem_cons_of_mem _ List.mem_cons_self) o
      clear hk
      go_upto_region 10 with fail
      go_cut [6, 7] (fun x y wx => x = .int .i64 (fsum [mx cp a1, mn cn a2]).1 ∧ y = .bool (fsum [mx cp a1, mn cn a2]).2 ∧ PW B g [(gb, .cells #[.int .i64 a1, .int .i64 a2, .int .i64 b1, .int .i64 b2, .int .i64 i1, .int .i64 i2, .bool false, .int .i64 hi] 64 (0, 0))] w0 wx (.slice A ys.length cc) ys #[.slice A ys.length cc, .int .i64 e, .int .i64 tp, .int .i64 tn, .int .i64 cp, .int .i64 cn, .bool false])
      case first =>
        go_region_with (first | (go_at_call 22; refine (join_any _ _ _ _ _).mono ?_; rintro e9 w3 ⟨rfl, hb⟩; have H3 := Lib.hid (HK.out.drew.call hb); clear hb) | (go_at_call 25; refine (value_any _ _ _).mono ?_; rintro e9 w5 ⟨rfl, hb⟩; have H5 := Lib.hid (H3.out.call hb); clear hb))
        all_goals (go_wp2_with fail; go_meet; first | exact ⟨rfl, rfl, H5.out.skipB⟩ | exact ⟨rfl, rfl, H5.out.drew.skipB⟩)
      case rest =>
        obtain ⟨rfl, rfl, hk⟩ := hcut
        have H4 := Lib.hid hk
        clear hk HK cP cX fX cY
        have cP := fun o => H4.out.cell o
        have fP := fun o => H4.out.frozen o
        have cX := fun o => H4.out.cellB List.mem_cons_self o
        have fX := fun o => H4.out.frozenB List.mem_cons_self o
        go_upto_region 16 with (first | ((with_reducible refine gate_dst (N := 78) rfl ?_); refine Kd.R_lit (Kd.int .i64) _ 2 ?hg (N := 78) ?hd (xs := ([e, (fsum [mx cp a1, mn cn a2]).1] : List Int)) (inner := [.int .i64 e, .int .i64 (fsum [mx cp a1, mn cn a2]).1]) (ok := fun _ => True) (okp := fun _ => True) ?hr ?hp (fun _ hk => hk) trivial (Below.refl _ _) (Nat.le_refl _) (by simp) ?_; (case hd => rfl); (case hg => rfl); (case hr => first | (go_simp; done) | (go_simp; rfl)); (case hp => exact (Reps.one (show Kd.M (Kd.int .i64) _ _ _ _ [.int .i64 e] from rfl) (Reps.one (show Kd.M (Kd.int .i64) _ _ _ _ [.int .i64 (fsum [mx cp a1, mn cn a2]).1] from rfl) (Reps.none _ _)))); intro v78 w5 ho5 hb hg_ hnew_; clear hg_ hnew_; have H5 := Lib.hid (H4.out.call hb); have OH5 := Lib.hid ho5; clear hb ho5; obtain ⟨A5, cA5, rfl⟩ := Kd.R_slice OH5.out; have cPH5 := fun o => H5.out.cell o; have fPH5 := fun o => H5.out.frozen o; have cXH5 := fun o => H5.out.cellB List.mem_cons_self o; have fXH5 := fun o => H5.out.frozenB List.mem_cons_self o) | (go_at_call 39; refine (sum2_any _ _ _ _ _ (Kd.R_reads' OH5.out)).mono ?_; rintro e9 w6 ⟨rfl, hd⟩; have H6 := Lib.hid (H5.out.call (drawn_below hd)); clear hd; have cPH6 := fun o => H6.out.cell o; have fPH6 := fun o => H6.out.frozen o; have cXH6 := fun o => H6.out.cellB List.mem_cons_self o; have fXH6 := fun o => H6.out.frozenB List.mem_cons_self o) | (at_builtin; refine Kd.R_append (Kd.int .i64) (w0 := w0) B rfl (.tmp 86) (.tmp 88) 42 2 (.int .i64 0) 8 rfl Try.underlying42 info_i64 rfl (by decide) (by omega) _ ys (fsum [e, (fsum [mx cp a1, mn cn a2]).1]).1 [.int .i64 (fsum [e, (fsum [mx cp a1, mn cn a2]).1]).1] (fun k => k ≠ g) (fun _ => False) rfl rfl ?aP (fun _ hk => hk.elim) ?aF ?aO ?aB ?aS ?aL ?_; (case aP => exact rfl); (case aB => exact H6.out.hB); (case aF => exact (fun k hk => by have := H6.out.lt; omega)); (case aO => exact H6.out.hR); (case aS => exact (by have := H6.out.lt; have := H6.out.le; omega)); (case aL => have h9 : ys.length < 1000000 := HL.out; omega); intro v1 w1 hR hb hgr hat; have HA := Lib.hid (H6.out.grown hR hb hgr hat); clear hR hb hgr hat; obtain ⟨A1, c1, rfl⟩ := Kd.R_slice HA.out.hR; have cPHA := fun o => HA.out.cell o; have fPHA := fun o => HA.out.frozen o; have cXHA := fun o => HA.out.cellB List.mem_cons_self o; have fXHA := fun o => HA.out.frozenB List.mem_cons_self o))
        obtain ⟨W7, hW7⟩ : ∃ w_ : World, w_ = w1.setCell ⟨g, 0, none⟩ (.slice A1 (ys.length + 1) c1) := ⟨_, rfl⟩
        have hk : PW B g [(gb, .cells #[.int .i64 a1, .int .i64 a2, .int .i64 b1, .int .i64 b2, .int .i64 i1, .int .i64 i2, .bool false, .int .i64 hi] 64 (0, 0))] w0 W7 (.slice A1 (ys.length + 1) c1) (ys ++ [(fsum [e, (fsum [mx cp a1, mn cn a2]).1]).1]) #[.slice A1 (ys.length + 1) c1, .int .i64 e, .int .i64 tp, .int .i64 tn, .int .i64 cp, .int .i64 cn, .bool false] := by
          rw [hW7]
          have h9 := HA.out.set 0 (.slice A1 (ys ++ [(fsum [e, (fsum [mx cp a1, mn cn a2]).1]).1]).length c1)
          simpa using h9
        rw [← hW7]
        have H7 := Lib.hid hk
        clear hk hW7
        have c7 := fun o => H7.out.cell o
        have f7 := fun o => H7.out.frozen o
        have x7 := fun o => H7.out.cellB List.mem_cons_self o
        have y7 := fun o => H7.out.frozenB List.mem_cons_self o
        go_upto_region 17 with (first | ((with_reducible refine gate_dst (N := 112) rfl ?_); refine Kd.R_lit (Kd.int .i64) _ 2 ?hg (N := 112) ?hd (xs := ([(fsum [e, (fsum [mx cp a1, mn cn a2]).1]).1, hi] : List Int)) (inner := [.int .i64 (fsum [e, (fsum [mx cp a1, mn cn a2]).1]).1, .int .i64 hi]) (ok := fun _ => True) (okp := fun _ => True) ?hr ?hp (fun _ hk => hk) trivial (Below.refl _ _) (Nat.le_refl _) (by simp) ?_; (case hd => rfl); (case hg => rfl); (case hr => first | (go_simp; done) | (go_simp; rfl)); (case hp => exact (Reps.one (show Kd.M (Kd.int .i64) _ _ _ _ [.int .i64 (fsum [e, (fsum [mx cp a1, mn cn a2]).1]).1] from rfl) (Reps.one (show Kd.M (Kd.int .i64) _ _ _ _ [.int .i64 hi] from rfl) (Reps.none _ _)))); intro v78 w8 ho5 hb hg_ hnew_; clear hg_ hnew_; have H8 := Lib.hid (H7.out.call hb); have OH8 := Lib.hid ho5; clear hb ho5; obtain ⟨A8, cA8, rfl⟩ := Kd.R_slice OH8.out; have cPH8 := fun o => H8.out.cell o; have fPH8 := fun o => H8.out.frozen o; have cXH8 := fun o => H8.out.cellB List.mem_cons_self o; have fXH8 := fun o => H8.out.frozenB List.mem_cons_self o) | (go_at_call 39; refine (sum2_any _ _ _ _ _ (Kd.R_reads' OH8.out)).mono ?_; rintro e9 w9 ⟨rfl, hd⟩; have H9 := Lib.hid (H8.out.call (drawn_below hd)); clear hd; have cPH9 := fun o => H9.out.cell o; have fPH9 := fun o => H9.out.frozen o; have cXH9 := fun o => H9.out.cellB List.mem_cons_self o; have fXH9 := fun o => H9.out.frozenB List.mem_cons_self o))
        go_cut [] (fun wx => PW B g [] w0 wx (.slice A1 (ys.length + 1) c1) (ys ++ [(fsum [e, (fsum [mx cp a1, mn cn a2]).1]).1]) #[.slice A1 (ys.length + 1) c1, .int .i64 (fsum [(fsum [e, (fsum [mx cp a1, mn cn a2]).1]).1, hi]).1, .int .i64 tp, .int .i64 tn, .int .i64 b1, .int .i64 b2, .bool false])
        case first =>
          go_region_with fail
          all_goals (go_wp2_with fail; go_meet; first | exact (((H9.out.set 1 _).set 4 _).set 5 _).drew.drop | exact (((H9.out.set 1 _).set 4 _).set 5 _).drop | exact (((H9.out.set 4 _).set 5 _).set 1 _).drew.drop | exact (((H9.out.set 4 _).set 5 _).set 1 _).drop)
        case rest =>
          have H10 := Lib.hid hcut
          clear hcut
          obtain ⟨q1, hq1⟩ : ∃ q, (fsum [mx cp a1, mn cn a2]).2 = q := ⟨_, rfl⟩
          obtain ⟨q2, hq2⟩ : ∃ q, (fsum [e, (fsum [mx cp a1, mn cn a2]).1]).2 = q := ⟨_, rfl⟩
          obtain ⟨q3, hq3⟩ : ∃ q, (fsum [(fsum [e, (fsum [mx cp a1, mn cn a2]).1]).1, hi]).2 = q := ⟨_, rfl⟩
          rw [hq1, hq2, hq3]
          cases q1 <;> cases q2 <;> cases q3
          all_goals (go_wp2_with fail; go_ret; exact ⟨by simp [putS, hq1, hq2, hq3], _, H10.out⟩)
end Go.Proofs.Ytpoeebngkakmeaa.PutB
