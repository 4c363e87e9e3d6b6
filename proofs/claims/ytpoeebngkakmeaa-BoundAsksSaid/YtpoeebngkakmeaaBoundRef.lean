/- What is proved: the contract of the reference that the statement BoundAsks calls. Conditions: none but those in each statement. -/
import Derived.Test.YtpoeebngkakmeaaBoundLaws
namespace Go.Proofs.Ytpoeebngkakmeaa.BoundRef
open Go.RowKit Go.Proofs.Ytpoeebngkakmeaa.AskWords Go.Proofs.Ytpoeebngkakmeaa.BoundTell
def askedL (b : Bool) (n least most a0 a1 : Int) : List (Bool × Int) :=
  (b, n) :: ((if most < a0 then [(false, most)] else []) ++ (if (if most < a0 then a1 else a0) < least then [(false, least)] else []))
theorem asked_len (b : Bool) (n least most a0 a1 : Int) : 1 ≤ (askedL b n least most a0 a1).length ∧ (askedL b n least most a0 a1).length ≤ 3 := by
  unfold askedL
  split <;> split <;> simp
theorem infoR : (Try.prog.info? 35).map (fun i => (i.zero, i.size, i.bytes)) = some (some (.agg #[.bool false, .int .i64 0]), 2, 16) := by kernel_rfl
/-- What is said behind the reference's call. -/
def EndA (l : List (Bool × Int)) (w : World) (e : Ending) (w' : World) : Prop := ∃ g cap, e = .returned (.slice (some ⟨g, 0, none⟩) l.length cap) ∧ w'.ownsRow w.heap.size 35 2 (.slice (some ⟨g, 0, none⟩) l.length cap) l.length (cellsOf l) ∧ Below w.heap.size w w'
set_option maxHeartbeats 1000000 in
set_option maxRecDepth 100000 in
theorem ref_any (b : Bool) (n least most a0 a1 a2 : Int) (w : World) :
    Calls Try.prog 18 #[.agg #[.bool b, .int .i64 n], .int .i64 least, .int .i64 most, .agg #[.int .i64 a0, .int .i64 a1, .int .i64 a2]] w (EndA (askedL b n least most a0 a1) w) := by
  obtain ⟨i0, hi, hz0, hz1, hz2⟩ := info_parts infoR
  have Hi := Lib.hid hi
  have Hz0 := Lib.hid hz0
  have Hz1 := Lib.hid hz1
  have Hz2 := Lib.hid hz2
  clear hi hz0 hz1 hz2
  have HO : Hid ((((w.alloc (.cells #[.bool b, .int .i64 n] 35)).alloc (.cells #[.int .i64 a0, .int .i64 a1, .int .i64 a2] 24)).alloc (.cells #[.bool b, .int .i64 n] 35)).ownsRow w.heap.size 35 2 (.slice (some ⟨w.heap.size + 1 + 1, 0, none⟩) 1 1) 1 [.bool b, .int .i64 n]) := by
    have := own_lit ((w.alloc (.cells #[.bool b, .int .i64 n] 35)).alloc (.cells #[.int .i64 a0, .int .i64 a1, .int .i64 a2] 24)) (base := w.heap.size) 35 2 1 [.bool b, .int .i64 n] (by simp <;> omega) (by unfold maxLen; omega) rfl
    simp only [World.size_alloc] at this
    exact this
  have HA : Hid ((((w.alloc (.cells #[.bool b, .int .i64 n] 35)).alloc (.cells #[.int .i64 a0, .int .i64 a1, .int .i64 a2] 24)).alloc (.cells #[.bool b, .int .i64 n] 35)).heap[w.heap.size + 1]? = some (.cells #[.int .i64 a0, .int .i64 a1, .int .i64 a2] 24 (0, 0))) := by
    have := blk_alloc (blk_new (w.alloc (.cells #[.bool b, .int .i64 n] 35)) (.cells #[.int .i64 a0, .int .i64 a1, .int .i64 a2] 24)) (.cells #[.bool b, .int .i64 n] 35)
    simp only [World.size_alloc] at this
    exact this
  have HN : ∀ m : Int, Hid (((((w.alloc (.cells #[.bool b, .int .i64 n] 35)).alloc (.cells #[.int .i64 a0, .int .i64 a1, .int .i64 a2] 24)).alloc (.cells #[.bool b, .int .i64 n] 35)).alloc (.cells #[.bool false, .int .i64 m] 35)).heap[w.heap.size + 1 + 1 + 1]? = some (.cells #[.bool false, .int .i64 m] 35 (0, 0))) := fun m => by
    have := blk_new (((w.alloc (.cells #[.bool b, .int .i64 n] 35)).alloc (.cells #[.int .i64 a0, .int .i64 a1, .int .i64 a2] 24)).alloc (.cells #[.bool b, .int .i64 n] 35)) (.cells #[.bool false, .int .i64 m] 35)
    simp only [World.size_alloc] at this
    exact this
  have HB : Hid (Below w.heap.size w (((w.alloc (.cells #[.bool b, .int .i64 n] 35)).alloc (.cells #[.int .i64 a0, .int .i64 a1, .int .i64 a2] 24)).alloc (.cells #[.bool b, .int .i64 n] 35))) := Lib.hid ((((Below.refl _ _).alloc (Nat.le_refl _) _).alloc (by simp) _).alloc (by simp <;> omega) _)
  go_enter Try.func18, Try.ntmps18
  by_cases h1 : most < a0
  · by_cases h2 : a1 < least
    · skip
      have HL := Lib.hid (show askedL b n least most a0 a1 = [(b, n), (false, most), (false, least)] by simp [askedL, h1, h2])
      go_wp2_with (first | (at_builtin; refine wpList_append_lies _ rfl (.tmp 18) (.tmp 21) 33 rfl w.heap.size 35 i0 (.agg #[.bool false, .int .i64 0]) 2 16 Try.underlying33 Hi.out Hz0.out Hz1.out Hz2.out rfl (by decide) (.slice (some ⟨w.heap.size + 1 + 1, 0, none⟩) 1 1) 1 [.bool b, .int .i64 n] rfl (HO.out.alloc _) ⟨(w.heap.size + 1 + 1 + 1), 0, none⟩ 1 1 [.bool false, .int .i64 most] rfl rfl (World.news_of_block (HN most).out) (by simp [Value.oneCell']) (by omega) (by unfold maxLen; omega) (by omega) (by simp <;> omega) (w.heap.size + 1 + 1 + 1 + 1) (by simp) ?_; intro g1 cap1 w1 hown1 hgrow1 hat1 hlt1; have HOWN1 := Lib.hid hown1; have HGR1 := Lib.hid hgrow1; have HAT1 := Lib.hid hat1; clear hown1 hgrow1 hat1; have ha1 : w1.heap[w.heap.size + 1]? = some (.cells #[.int .i64 a0, .int .i64 a1, .int .i64 a2] 24 (0, 0)) := (HGR1.out.block _ (by simp <;> omega) (by simp [Value.ownBlock])).trans (blk_alloc HA.out _); have ca1 : w1.cell? ⟨w.heap.size + 1, 1, none⟩ = some (.int .i64 a1) := (blk_cell ha1 1).trans rfl; have HNN := Lib.hid (blk_new w1 (.cells #[.bool false, .int .i64 least] 35)); clear ha1) | (at_builtin; refine wpList_append_lies _ rfl (.tmp 28) (.tmp 31) 33 rfl w.heap.size 35 i0 (.agg #[.bool false, .int .i64 0]) 2 16 Try.underlying33 Hi.out Hz0.out Hz1.out Hz2.out rfl (by decide) (.slice (some ⟨g1, 0, none⟩) 2 cap1) 2 ([.bool b, .int .i64 n] ++ [.bool false, .int .i64 most]) rfl (HOWN1.out.alloc _) ⟨w1.heap.size, 0, none⟩ 1 1 [.bool false, .int .i64 least] rfl rfl (World.news_of_block HNN.out) (by simp [Value.oneCell']) (by omega) (by unfold maxLen; omega) (by omega) (by have := HGR1.out.size; simp at this ⊢; omega) (w1.heap.size + 1) (by simp) ?_; intro g2 cap2 w2 hown2 hgrow2 hat2 hlt2; have HOWN2 := Lib.hid hown2; have HGR2 := Lib.hid hgrow2; have HAT2 := Lib.hid hat2; clear hown2 hgrow2 hat2))
      go_ret
      have b1 : Below w.heap.size w w1 := (HB.out.alloc (by simp <;> omega) _).grown HGR1.out (by simp <;> omega) (fun k hk => by
        have e : w.heap.size + 1 + 1 = k := by simpa [Value.ownBlock] using hk
        omega)
      have b2 : Below w.heap.size w w2 := (b1.alloc b1.size _).grown HGR2.out (by have := b1.size; simp <;> omega) (fun k hk => by
        have e : g1 = k := by simpa [Value.ownBlock] using hk
        have := (HOWN1.out.lt g1 rfl).1
        omega)
      exact ⟨g2, cap2, by rw [HL.out]; rfl, by rw [HL.out]; exact HOWN2.out, b2⟩
    · skip
      have HL := Lib.hid (show askedL b n least most a0 a1 = [(b, n), (false, most)] by simp [askedL, h1, h2])
      go_wp2_with (at_builtin; refine wpList_append_lies _ rfl (.tmp 18) (.tmp 21) 33 rfl w.heap.size 35 i0 (.agg #[.bool false, .int .i64 0]) 2 16 Try.underlying33 Hi.out Hz0.out Hz1.out Hz2.out rfl (by decide) (.slice (some ⟨w.heap.size + 1 + 1, 0, none⟩) 1 1) 1 [.bool b, .int .i64 n] rfl (HO.out.alloc _) ⟨(w.heap.size + 1 + 1 + 1), 0, none⟩ 1 1 [.bool false, .int .i64 most] rfl rfl (World.news_of_block (HN most).out) (by simp [Value.oneCell']) (by omega) (by unfold maxLen; omega) (by omega) (by simp <;> omega) (w.heap.size + 1 + 1 + 1 + 1) (by simp) ?_; intro g1 cap1 w1 hown1 hgrow1 hat1 hlt1; have HOWN1 := Lib.hid hown1; have HGR1 := Lib.hid hgrow1; have HAT1 := Lib.hid hat1; clear hown1 hgrow1 hat1; have ha1 : w1.heap[w.heap.size + 1]? = some (.cells #[.int .i64 a0, .int .i64 a1, .int .i64 a2] 24 (0, 0)) := (HGR1.out.block _ (by simp <;> omega) (by simp [Value.ownBlock])).trans (blk_alloc HA.out _); have ca1 : w1.cell? ⟨w.heap.size + 1, 1, none⟩ = some (.int .i64 a1) := (blk_cell ha1 1).trans rfl; have HNN := Lib.hid (blk_new w1 (.cells #[.bool false, .int .i64 least] 35)); clear ha1)
      go_ret
      have b1 : Below w.heap.size w w1 := (HB.out.alloc (by simp <;> omega) _).grown HGR1.out (by simp <;> omega) (fun k hk => by
        have e : w.heap.size + 1 + 1 = k := by simpa [Value.ownBlock] using hk
        omega)
      exact ⟨g1, cap1, by rw [HL.out]; rfl, by rw [HL.out]; exact HOWN1.out, b1⟩
  · by_cases h2 : a0 < least
    · skip
      have HL := Lib.hid (show askedL b n least most a0 a1 = [(b, n), (false, least)] by simp [askedL, h1, h2])
      go_wp2_with (at_builtin; refine wpList_append_lies _ rfl (.tmp 28) (.tmp 31) 33 rfl w.heap.size 35 i0 (.agg #[.bool false, .int .i64 0]) 2 16 Try.underlying33 Hi.out Hz0.out Hz1.out Hz2.out rfl (by decide) (.slice (some ⟨w.heap.size + 1 + 1, 0, none⟩) 1 1) 1 [.bool b, .int .i64 n] rfl (HO.out.alloc _) ⟨(w.heap.size + 1 + 1 + 1), 0, none⟩ 1 1 [.bool false, .int .i64 least] rfl rfl (World.news_of_block (HN least).out) (by simp [Value.oneCell']) (by omega) (by unfold maxLen; omega) (by omega) (by simp <;> omega) (w.heap.size + 1 + 1 + 1 + 1) (by simp) ?_; intro g1 cap1 w1 hown1 hgrow1 hat1 hlt1; have HOWN1 := Lib.hid hown1; have HGR1 := Lib.hid hgrow1; have HAT1 := Lib.hid hat1; clear hown1 hgrow1 hat1)
      go_ret
      have b1 : Below w.heap.size w w1 := (HB.out.alloc (by simp <;> omega) _).grown HGR1.out (by simp <;> omega) (fun k hk => by
        have e : w.heap.size + 1 + 1 = k := by simpa [Value.ownBlock] using hk
        omega)
      exact ⟨g1, cap1, by rw [HL.out]; rfl, by rw [HL.out]; exact HOWN1.out, b1⟩
    · skip
      have HL := Lib.hid (show askedL b n least most a0 a1 = [(b, n)] by simp [askedL, h1, h2])
      go_wp2
      go_ret
      exact ⟨_, _, by rw [HL.out]; rfl, by rw [HL.out]; exact HO.out, HB.out⟩
end Go.Proofs.Ytpoeebngkakmeaa.BoundRef
